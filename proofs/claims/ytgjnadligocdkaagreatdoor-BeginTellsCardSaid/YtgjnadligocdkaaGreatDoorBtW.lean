/-
  BeginTells: the statement's own code, by hand.
-/
import Derived.Test.YtgjnadligocdkaaGreatDoorBx
import Derived.Test.YtgjnadligocdkaaGreatDoorBytQ
import Derived.Test.YtgjnadligocdkaaGreatDoorBtM
set_option linter.unusedVariables false
set_option linter.unusedSimpArgs false
set_option maxRecDepth 100000
namespace Go.Proofs.YtgjnadligocdkaaGreatDoor
open Go.RowKit Go.Sort
def InI64 (n : Int) : Prop := IntKind.i64.min ≤ n ∧ n ≤ IntKind.i64.max
structure StA where
  what : Int
  txn : Nat
def stCells (s : StA) : Array Value := #[.int .i64 s.what, .int .u8 (s.txn : Int)]
def stsCells (l : List StA) : List Value := l.flatMap fun o => (stCells o).toList
theorem stCells_len (o : StA) : (stCells o).toList.length = 2 := rfl
theorem st_at : ∀ {l : List StA} {j : Nat} {o : StA}, l[j]? = some o → ∀ {k : Nat}, k < 2 → (stsCells l)[j * 2 + k]? = (stCells o).toList[k]?
  | [], j, t, h, k, hk => by simp at h
  | a :: r, 0, t, h, k, hk => by
    simp at h; subst h
    show (List.flatMap _ (a :: r))[0 * 2 + k]? = _
    rw [List.flatMap_cons, Nat.zero_mul, Nat.zero_add, List.getElem?_append_left (by rw [stCells_len]; exact hk)]
  | a :: r, j + 1, t, h, k, hk => by
    show (List.flatMap _ (a :: r))[(j + 1) * 2 + k]? = _
    rw [List.flatMap_cons, List.getElem?_append_right (by rw [stCells_len]; omega), stCells_len, show (j + 1) * 2 + k - 2 = j * 2 + k by omega]
    exact st_at (by simpa using h) hk
theorem Stays.turned {a b : World} (h : Ev.Stays a b) : Turned [] a b := ⟨h.1, h.2.1, h.2.2.1, fun k hk _ => h.2.2.2 k hk⟩
theorem Turned.stays {a b : World} (h : Turned [] a b) : Ev.Stays a b := ⟨h.size, h.os, h.out, fun k hk => h.same k hk (by simp)⟩
theorem gnd_of {w : World} (h : Ev.Grounded Ev.gG w) : w.cell? ⟨0, 0, none⟩ = some gE := (h _ _ rfl).1
set_option maxHeartbeats 4000000 in
theorem begins_any (most : Int) (v : Value) (l : List StA) (w : World) (hM : InI64 most) (hv : Sl w 2 v l.length (stsCells l)) (hwf : ∀ s ∈ l, s.txn < 256) (hG : Ev.Grounded Ev.gG w) :
    Calls Tryz.prog 3 #[.int .i64 most, v] w fun e w' => e = .returned (.bool true) ∧ Ev.Stays w w' := by
  obtain ⟨_, p, cc, rfl, hc1, hc2, hcells⟩ := hv
  have HKN : Hid (Calls Tryz.prog 4 #[] w fun e w' => e = .returned (.bool true) ∧ Ev.Stays w w') := (Ev.known4 w (hG _ _ rfl)).mono fun e w' h => ⟨h.1, h.2⟩
  have HG := Lib.hid (gnd_of hG)
  have HC := Lib.hid hcells
  have HWF := Lib.hid hwf
  have HM := Lib.hid hM.2
  clear hG hcells hwf hM
  by_cases h60 : l.length > 60
  · have k : decide ((60 : Int) < (l.length : Int)) = true := decide_eq_true (by omega)
    go_enter Tryz.func3, Tryz.ntmps3
    go_wp2_with fail
    refine HKN.out.mono ?_
    rintro e w1 ⟨rfl, hx1⟩
    have HX1 := Lib.hid hx1
    clear hx1
    go_wp2_with fail
    go_ret
    exact ⟨rfl, HX1.out⟩
  have k : decide ((60 : Int) < (l.length : Int)) = false := decide_eq_false (by omega)
  go_enter Tryz.func3, Tryz.ntmps3
  go_wp2_with fail
  refine HKN.out.mono ?_
  rintro e w1 ⟨rfl, hx1⟩
  have T1 := Lib.hid (Stays.turned hx1)
  clear hx1 HKN
  go_wp2_with fail
  refine (empty_any w1).mono ?_
  rintro e w2 ⟨P1, c1, rfl, hc1', hP1, hb1, t2⟩
  have HB1 := Lib.hid hb1
  have HP1 := Lib.hid hP1
  have T2 := Lib.hid t2
  clear hb1 hP1 t2
  go_wp2_with fail
  refine (new_p HB1.out hc1').mono ?_
  rintro e w3 ⟨F, R, β, M, c, S, rfl, f, f1, f2, f3, t3⟩
  have HF := Lib.hid f; have HF1 := Lib.hid f1; have HF2 := Lib.hid f2; have HF3 := Lib.hid f3; have T3 := Lib.hid t3
  clear f f1 f2 f3 t3 HB1 hc1'
  go_wp2_with fail
  refine (empty_any w3).mono ?_
  rintro e w4 ⟨P2, c2, rfl, hc2', hP2, hb2, t4⟩
  have HB2 := Lib.hid hb2
  have HP2 := Lib.hid hP2
  have HP2' := Lib.hid (BlkR.lt hb2)
  have T4 := Lib.hid t4
  clear hb2 hP2 t4
  go_wp2_with fail
  refine (new_q HB2.out hc2').mono ?_
  rintro e w5 ⟨F2, R2, β2, c2, S2, rfl, g, g1, g2, t5⟩
  have HQ := Lib.hid g; have HQ1 := Lib.hid g1; have HQ2 := Lib.hid g2; have T5 := Lib.hid t5
  clear g g1 g2 t5 HB2 hc2'
  go_wp2_with fail
  refine (lock_new w5).mono ?_
  rintro e w6 ⟨rfl, hK, t6⟩
  obtain ⟨K, eK⟩ : ∃ n, n = w5.heap.size := ⟨_, rfl⟩
  rw [← eK] at hK ⊢
  have HK := Lib.hid hK; have EK := Lib.hid eK; have T6 := Lib.hid t6
  clear hK eK t6
  go_wp2_with fail
  obtain ⟨Q, eQ⟩ : ∃ n, n = w6.heap.size := ⟨_, rfl⟩
  have hQ : LkAt (w6.alloc (.cells #[.int .i64 0, .int .i64 0, .int .u64 0, .int .i64 0, .int .u64 0, .int .i64 0, .int .u64 0, .int .i64 0, .int .u64 0, .int .i64 0, .int .u64 0, .int .i64 0, .int .u64 0, .int .i64 0, .int .u64 0, .int .i64 0, .int .u64 0] 38)) Q 0 0 (fun _ => 0) := by rw [eQ]; exact Blk.new w6 _ _
  have t7 := (Ext.rfl' w6).alloc (.cells #[.int .i64 0, .int .i64 0, .int .u64 0, .int .i64 0, .int .u64 0, .int .i64 0, .int .u64 0, .int .i64 0, .int .u64 0, .int .i64 0, .int .u64 0, .int .i64 0, .int .u64 0, .int .i64 0, .int .u64 0, .int .i64 0, .int .u64 0] 38)
  rw [← eQ]
  generalize w6.alloc (.cells #[.int .i64 0, .int .i64 0, .int .u64 0, .int .i64 0, .int .u64 0, .int .i64 0, .int .u64 0, .int .i64 0, .int .u64 0, .int .i64 0, .int .u64 0, .int .i64 0, .int .u64 0, .int .i64 0, .int .u64 0, .int .i64 0, .int .u64 0] 38) = w7 at hQ t7 ⊢
  have HLQ := Lib.hid hQ; have EQ := Lib.hid eQ; have T7 := Lib.hid t7
  clear hQ eQ t7
  refine (procs_new w7).mono ?_
  rintro e w8 ⟨rfl, hp, t8⟩
  obtain ⟨P, eP⟩ : ∃ n, n = w7.heap.size := ⟨_, rfl⟩
  rw [← eP] at hp ⊢
  have HPP := Lib.hid hp; have EP := Lib.hid eP; have T8 := Lib.hid t8
  clear hp eP t8
  go_wp2_with fail
  obtain ⟨Z, eZ⟩ : ∃ n, n = w8.heap.size := ⟨_, rfl⟩
  have hz : Blk (w8.alloc (.cells #[.slice none 0 0, .int .i64 0] 44)) Z #[.slice none 0 0, .int .i64 0] := by rw [eZ]; exact Blk.new w8 _ _
  have t9 := (Ext.rfl' w8).alloc (.cells #[.slice none 0 0, .int .i64 0] 44)
  rw [← eZ]
  generalize w8.alloc (.cells #[.slice none 0 0, .int .i64 0] 44) = w9 at hz t9 ⊢
  have HZ := Lib.hid hz; have EZ := Lib.hid eZ; have T9 := Lib.hid t9
  clear hz eZ t9
  refine (spawn_1 P w9 (BlkR.ext HPP.out T9.out)).mono ?_
  rintro e w10 ⟨x1, Rp, γ0, δ0, rfl, t10, r10, n10, p10⟩
  have HT10 := Lib.hid t10; have HR10 := Lib.hid r10; have HN10 := Lib.hid n10; have HP10 := Lib.hid p10
  clear t10 r10 n10 p10
  have hPZ : P ≠ Z := by
    have h1 := BlkR.lt HPP.out
    have h2 := EZ.out
    omega
  have HPZ := Lib.hid hPZ
  go_wp2_with fail
  refine (spawn_r1 Z w10 (BlkR.turned HZ.out HT10.out (by simp only [List.mem_cons, List.not_mem_nil, or_false]; exact hPZ.symm))).mono ?_
  rintro e w11 ⟨x2, Rs, γ1, δ1, rfl, t11, r11, n11, p11⟩
  have HT11 := Lib.hid t11; have HR11 := Lib.hid r11; have HN11 := Lib.hid n11; have HP11 := Lib.hid p11
  clear t11 r11 n11 p11 hPZ
  go_wp2_with fail
  have hZlt : Z < w9.heap.size := BlkR.lt HZ.out
  have p10' : PrAt w11 P Rp γ0 δ0 [1] 1 := pr_same2 HP10.out HT11.out HPZ.out (by have := HR10.out; omega)
  refine (spawn_2 P Rp γ0 δ0 w11 p10' HN10.out).mono ?_
  rintro e w12 ⟨x3, Rp', rfl, γ, δ, t12, r12, n12, p12⟩
  have HT12 := Lib.hid t12; have HR12 := Lib.hid r12; have HN12 := Lib.hid n12; have HP12 := Lib.hid p12
  have HZL := Lib.hid hZlt
  clear t12 r12 n12 p12 p10' hZlt
  go_wp2_with fail
  have p11' : PrAt w12 Z Rs γ1 δ1 [1] 1 := by
    have h1 := HR10.out
    have h2 := HZL.out
    have h3 := HR11.out
    have h4 := BlkR.lt HP10.out.2.1
    have h5 := HT10.out.size
    have h6 : P < w9.heap.size := Nat.lt_of_lt_of_le (BlkR.lt HPP.out) T9.out.size
    exact HP11.out.turned HT12.out (by simp only [List.mem_cons, List.not_mem_nil, or_false]; have := HPZ.out; omega) (by simp only [List.mem_cons, List.not_mem_nil, or_false]; omega)
  refine (spawn_r2 Z Rs γ1 δ1 w12 p11' HN11.out).mono ?_
  rintro e w13 ⟨x4, Rs', rfl, γ', δ', t13, r13, n13, p13⟩
  have HT13 := Lib.hid t13; have HR13 := Lib.hid r13; have HN13 := Lib.hid n13; have HP13 := Lib.hid p13
  clear t13 r13 n13 p13 p11'
  go_wp2_with fail
  refine (writer_new w13 most).mono ?_
  rintro e w14 ⟨rfl, hA, t14⟩
  obtain ⟨A, eA⟩ : ∃ n, n = w13.heap.size := ⟨_, rfl⟩
  rw [← eA] at hA ⊢
  have HA := Lib.hid hA; have EA := Lib.hid eA; have T14 := Lib.hid t14
  clear hA eA t14
  go_wp2_with fail
  refine (writer_newq w14 most).mono ?_
  rintro e w15 ⟨rfl, hB, t15⟩
  obtain ⟨B, eB⟩ : ∃ n, n = w14.heap.size := ⟨_, rfl⟩
  rw [← eB] at hB ⊢
  have HB : Hid (Bq w ⟨F, K, P, A, F2, Q, Z, B⟩ 0 #[] w15 Ps.s0 Ps.s0 most) := Lib.hid (bq_start T1.out T2.out HP1.out HF.out HF1.out HF2.out HF3.out T3.out HP2.out HP2'.out T4.out HQ.out HQ1.out HQ2.out T5.out HK.out EK.out T6.out HLQ.out EQ.out T7.out EP.out T8.out (BlkR.lt HPP.out) EZ.out T9.out HZL.out HT10.out HR10.out HT11.out HR11.out (BlkR.lt HP11.out.2.1) HT12.out HR12.out HN12.out HP12.out HT13.out HR13.out HN13.out HP13.out (BlkR.lt HP10.out.2.1) HA.out EA.out T14.out hB eB t15)
  clear hB eB t15 T1 T2 HP1 HF HF1 HF2 HF3 T3 HP2 HP2' T4 HQ HQ1 HQ2 T5 HK EK T6 HLQ EQ T7 EP T8 HPP EZ T9 HZL HT10 HR10 HN10 HP10 HT11 HR11 HN11 HP11 HT12 HR12 HN12 HP12 HT13 HR13 HN13 HP13 HA EA T14 HZ HPZ
  go_wp2_with fail
  go_loopw [13, 14] (fun x i wr => ∃ (t : Nat) (s : Ps), t ≤ l.length ∧ i = .int .i64 t ∧ x = .int .u64 (s.v : Int) ∧ s.v ≤ t + 1 ∧ s.Ok most ∧ ∃ X vs, Bq w ⟨F, K, P, A, F2, Q, Z, B⟩ X vs wr s s most) (fun _ i _ => l.length - (intOf i).toNat)
  case atStart => exact ⟨0, Ps.s0, by omega, rfl, rfl, by decide, Ps.s0_ok most, _, _, HB.out⟩
  case round =>
    obtain ⟨t, s, ht, rfl, rfl, hvt, hok, X, vs, hb⟩ := hrel
    obtain ⟨wr, rfl⟩ : ∃ wr' : World, wr' = wr := ⟨_, rfl⟩
    have HO := Lib.hid hok
    have HBR := Lib.hid hb
    clear hok hb HB
    by_cases hlt : t < l.length
    · obtain ⟨b, off, rfl, hcs⟩ := HC.out (by omega)
      obtain ⟨⟨what, x⟩, hop⟩ : ∃ op, l[t]? = some op := ⟨_, List.getElem?_eq_getElem hlt⟩
      have hx : x < 256 := HWF.out _ (List.mem_of_getElem? hop)
      have y0 : wr.cell? ⟨b, off + t * 2, none⟩ = some (.int .i64 what) := HBR.out.old.cell (hcs _ _ ((st_at hop (k := 0) (by decide)).trans rfl)) (by simp)
      have y1 : wr.cell? ⟨b, off + t * 2 + 1, none⟩ = some (.int .u8 (x : Int)) := by
        rw [Nat.add_assoc]
        exact HBR.out.old.cell (hcs _ _ ((st_at hop (k := 1) (by decide)).trans rfl)) (by simp)
      have HB1 := Lib.hid (HBR.out.make #[.int .i64 what, .int .u8 (x : Int)] 56)
      have b1 : (0 : Int) ≤ (t : Int) := by omega
      have b2 : (t : Int) < (l.length : Int) := by omega
      clear hcs hop
      by_cases h6 : what = 6
      · subst h6
        go_wp2_with fail
        refine (b_take_p HB1.out HO.out).mono ?_
        rintro e w1 ⟨⟨v1, rfl⟩, hb1⟩
        have HB2 := Lib.hid hb1
        clear hb1 y0 y1
        go_wp2_with fail
        refine (b_take_q HB2.out HO.out).mono ?_
        rintro e w2 ⟨⟨v2, rfl⟩, hb2⟩
        have HBT := Lib.hid hb2
        clear hb2
        go_wp2_with fail
        obtain ⟨lk1, lk2, e1, e2⟩ := HBT.out.locks
        have hok2 : (s.take2).Ok most := HO.out.take2
        have HOK2 := Lib.hid hok2
        have GP := Lib.hid (gc_same (P := fun w => w.cell? ⟨A, 2, none⟩ = some (.int .i64 ((s.take2).ph : Int))) e1 (fun _ _ h x => Ext.cell x h) (fun w h => phase_p h))
        have GK := Lib.hid (gc_of (P := fun w => LkAt w K (s.take2).W (s.take2).n (s.take2).T) lk1 (fun _ _ h x => BlkR.ext h x) (fun w h => bytes_p h (Nat.lt_of_lt_of_le hok2.W (by decide)) hok2.T))
        have GQ := Lib.hid (gc_of (P := fun w => LkAt w Q (s.take2).W (s.take2).n (s.take2).T) lk2 (fun _ _ h x => BlkR.ext h x) (fun w h => bytes_q h (Nat.lt_of_lt_of_le hok2.W (by decide)) hok2.T))
        have g2 := ext_cells e2
        generalize lkTx (s.take2).W (s.take2).n (s.take2).T 8 = Zt at GK GQ
        generalize ((s.take2).ph : Int) = php at GP g2
        clear lk1 lk2 e1 e2 hok2
        have mixed : Tryz.prog.follows .mixedOrders = true := by kernel_rfl
        refine wp_region_quiet_grown (by assumption) (by kernel_rfl) ?_
        repeat (first | go_big_quiet_step (first | (go_at_call 36; refine Calls.grown_of (GP.out _ _)) | (go_at_call 34; refine Calls.grown_of (GK.out _ _)) | (go_at_call 35; refine Calls.grown_of (GQ.out _ _))) | quiet_step (first | (go_at_call 36; refine Calls.grown_of (GP.out _ _)) | (go_at_call 34; refine Calls.grown_of (GK.out _ _)) | (go_at_call 35; refine Calls.grown_of (GQ.out _ _))))
        refine wpQuiet_nil ?_
        intro _ hw'
        obtain ⟨pp, hw''⟩ := hw'
        subst hw''
        have hx0 : Ext w2 (grow (w2.drewN pp.n) pp.os) := grow_ext
        generalize grow (w2.drewN pp.n) pp.os = W0 at hx0 ⊢
        have HBE := Lib.hid (HBT.out.stay (Turned.ext hx0))
        clear GP GK GQ g2 hx0
        go_wp2_with fail
        go_roundw
        case rel => exact ⟨t + 1, s.take2, by omega, by go_num, rfl, (Nat.le_succ_of_le hvt), HOK2.out, _, _, HBE.out⟩
        case measure => simp [intOf]; omega
      have k6 : (what == 6) = false := by simpa using h6
      by_cases h7 : what = 7
      · subst h7
        clear h6
        go_wp2_with fail
        refine (b_kill_p HB1.out).mono ?_
        rintro e w1 ⟨⟨v1, rfl⟩, hb1⟩
        have HB2 := Lib.hid hb1
        clear hb1 y0 y1
        go_wp2_with fail
        refine (b_kill_q HB2.out).mono ?_
        rintro e w2 ⟨⟨v2, rfl⟩, hb2⟩
        have HBT := Lib.hid hb2
        clear hb2
        go_wp2_with fail
        obtain ⟨lk1, lk2, e1, e2⟩ := HBT.out.locks
        have hok2 : (s.kill).Ok most := HO.out.kill
        have HOK2 := Lib.hid hok2
        have GP := Lib.hid (gc_same (P := fun w => w.cell? ⟨A, 2, none⟩ = some (.int .i64 ((s.kill).ph : Int))) e1 (fun _ _ h x => Ext.cell x h) (fun w h => phase_p h))
        have GK := Lib.hid (gc_of (P := fun w => LkAt w K (s.kill).W (s.kill).n (s.kill).T) lk1 (fun _ _ h x => BlkR.ext h x) (fun w h => bytes_p h (Nat.lt_of_lt_of_le hok2.W (by decide)) hok2.T))
        have GQ := Lib.hid (gc_of (P := fun w => LkAt w Q (s.kill).W (s.kill).n (s.kill).T) lk2 (fun _ _ h x => BlkR.ext h x) (fun w h => bytes_q h (Nat.lt_of_lt_of_le hok2.W (by decide)) hok2.T))
        have g2 := ext_cells e2
        generalize lkTx (s.kill).W (s.kill).n (s.kill).T 8 = Zt at GK GQ
        generalize ((s.kill).ph : Int) = php at GP g2
        clear lk1 lk2 e1 e2 hok2
        have mixed : Tryz.prog.follows .mixedOrders = true := by kernel_rfl
        refine wp_region_quiet_grown (by assumption) (by kernel_rfl) ?_
        repeat (first | go_big_quiet_step (first | (go_at_call 36; refine Calls.grown_of (GP.out _ _)) | (go_at_call 34; refine Calls.grown_of (GK.out _ _)) | (go_at_call 35; refine Calls.grown_of (GQ.out _ _))) | quiet_step (first | (go_at_call 36; refine Calls.grown_of (GP.out _ _)) | (go_at_call 34; refine Calls.grown_of (GK.out _ _)) | (go_at_call 35; refine Calls.grown_of (GQ.out _ _))))
        refine wpQuiet_nil ?_
        intro _ hw'
        obtain ⟨pp, hw''⟩ := hw'
        subst hw''
        have hx0 : Ext w2 (grow (w2.drewN pp.n) pp.os) := grow_ext
        generalize grow (w2.drewN pp.n) pp.os = W0 at hx0 ⊢
        have HBE := Lib.hid (HBT.out.stay (Turned.ext hx0))
        clear GP GK GQ g2 hx0
        go_wp2_with fail
        go_roundw
        case rel => exact ⟨t + 1, s.kill, by omega, by go_num, rfl, (Nat.le_succ_of_le hvt), HOK2.out, _, _, HBE.out⟩
        case measure => simp [intOf]; omega
      have k7 : (what == 7) = false := by simpa using h7
      by_cases h8 : what = 8
      · subst h8
        clear h6 h7
        have hwx : IntKind.u64.wrap (x : Int) = (x : Int) := by
          show (x : Int) % 18446744073709551616 = _
          omega
        have hsn : s.n < 8 → s.n < s.claim.n := fun q => by
          show s.n < clN s.n
          unfold clN; rw [if_pos q]; omega
        have HSN := Lib.hid hsn
        clear hsn
        go_wp2_with fail
        refine (b_claim_p HB1.out HO.out).mono ?_
        rintro e w1 ⟨⟨v1, rfl⟩, hb1⟩
        have HB2 := Lib.hid hb1
        clear hb1 y0 y1
        go_wp2_with fail
        refine (b_claim_q HB2.out HO.out).mono ?_
        rintro e w2 ⟨⟨v2, rfl⟩, hb2⟩
        have x2 : w2.cell? ⟨wr.heap.size, 1, none⟩ = some (.int .u8 (x : Int)) := hb2.at_ rfl
        have HB3 := Lib.hid hb2
        clear hb2
        go_wp2_with fail
        refine (b_pub_p (m := s.n) (x := x) HB3.out HO.out.claim HSN.out).mono ?_
        rintro e w3 ⟨⟨v3, rfl⟩, hb3⟩
        have x3 : w3.cell? ⟨wr.heap.size, 1, none⟩ = some (.int .u8 (x : Int)) := hb3.at_ rfl
        have HB4 := Lib.hid hb3
        clear hb3 x2
        go_wp2_with fail
        refine (b_pub_q (m := s.n) (x := x) HB4.out HO.out.claim HSN.out).mono ?_
        rintro e w4 ⟨⟨v4, rfl⟩, hb4⟩
        have HBT := Lib.hid hb4
        clear hb4 x3
        go_wp2_with fail
        obtain ⟨lk1, lk2, e1, e2⟩ := HBT.out.locks
        have hok2 : (s.claim.pub s.n x).Ok most := HO.out.claim.pub (by omega)
        have HOK2 := Lib.hid hok2
        have GP := Lib.hid (gc_same (P := fun w => w.cell? ⟨A, 2, none⟩ = some (.int .i64 ((s.claim.pub s.n x).ph : Int))) e1 (fun _ _ h x => Ext.cell x h) (fun w h => phase_p h))
        have GK := Lib.hid (gc_of (P := fun w => LkAt w K (s.claim.pub s.n x).W (s.claim.pub s.n x).n (s.claim.pub s.n x).T) lk1 (fun _ _ h x => BlkR.ext h x) (fun w h => bytes_p h (Nat.lt_of_lt_of_le hok2.W (by decide)) hok2.T))
        have GQ := Lib.hid (gc_of (P := fun w => LkAt w Q (s.claim.pub s.n x).W (s.claim.pub s.n x).n (s.claim.pub s.n x).T) lk2 (fun _ _ h x => BlkR.ext h x) (fun w h => bytes_q h (Nat.lt_of_lt_of_le hok2.W (by decide)) hok2.T))
        have g2 := ext_cells e2
        generalize lkTx (s.claim.pub s.n x).W (s.claim.pub s.n x).n (s.claim.pub s.n x).T 8 = Zt at GK GQ
        generalize ((s.claim.pub s.n x).ph : Int) = php at GP g2
        clear lk1 lk2 e1 e2 hok2
        have mixed : Tryz.prog.follows .mixedOrders = true := by kernel_rfl
        refine wp_region_quiet_grown (by assumption) (by kernel_rfl) ?_
        repeat (first | go_big_quiet_step (first | (go_at_call 36; refine Calls.grown_of (GP.out _ _)) | (go_at_call 34; refine Calls.grown_of (GK.out _ _)) | (go_at_call 35; refine Calls.grown_of (GQ.out _ _))) | quiet_step (first | (go_at_call 36; refine Calls.grown_of (GP.out _ _)) | (go_at_call 34; refine Calls.grown_of (GK.out _ _)) | (go_at_call 35; refine Calls.grown_of (GQ.out _ _))))
        refine wpQuiet_nil ?_
        intro _ hw'
        obtain ⟨pp, hw''⟩ := hw'
        subst hw''
        have hx0 : Ext w4 (grow (w4.drewN pp.n) pp.os) := grow_ext
        generalize grow (w4.drewN pp.n) pp.os = W0 at hx0 ⊢
        have HBE := Lib.hid (HBT.out.stay (Turned.ext hx0))
        clear GP GK GQ g2 hx0
        go_wp2_with fail
        go_roundw
        case rel => exact ⟨t + 1, s.claim.pub s.n x, by omega, by go_num, rfl, (Nat.le_succ_of_le hvt), HOK2.out, _, _, HBE.out⟩
        case measure => simp [intOf]; omega
      have k8 : (what == 8) = false := by simpa using h8
      by_cases h9 : what = 9
      · subst h9
        clear h6 h7 h8
        have hw9 : IntKind.u64.wrap ((s.v : Int) + 1) = ((s.v + 1 : Nat) : Int) := by
          show ((s.v : Int) + 1) % 18446744073709551616 = _
          omega
        have e1 : ((s.v + 1 : Nat) : Int) = (s.v : Int) + 1 := by omega
        have e2 : ((x % 5 + 2 : Nat) : Int) = 2 + (x : Int) % 5 := by omega
        have MB : ∀ W, Calls Tryz.prog 22 #[.agg #[.int .u64 ((s.v : Int) + 1), .int .i64 0, .int .i64 0, .int .i64 0, .int .i64 0, .int .i64 (2 + (x : Int) % 5)]] W fun e w' => e = .returned (.string (metaB (s.v + 1) (x % 5 + 2))) ∧ Turned [] W w' := fun W => by
          have h := mb_any (t := s.v + 1) (d := x % 5) (by omega) (by omega) W
          unfold metaV at h
          rw [e1, e2] at h
          exact h
        have PL : ∀ W, Calls Tryz.prog 24 #[.int .u64 ((s.v : Int) + 1)] W fun e w' => e = .returned (.int .i64 (((s.v + 1) % 2 : Nat) : Int)) ∧ w' = W := fun W => by
          have h := place_q (w := W) (a := s.v + 1) (by omega)
          rw [e1] at h
          exact h
        have MBH := Lib.hid MB
        have PLH := Lib.hid PL
        have E1 := Lib.hid e1
        clear MB PL e2
        rw [e1] at hw9
        clear e1
        go_wp2_with fail
        refine (MBH.out _).mono ?_
        rintro e w1 ⟨rfl, t1⟩
        have HB2 := Lib.hid (HB1.out.stay t1)
        clear t1 y0 y1
        go_wp2_with fail
        refine (PLH.out _).mono ?_
        rintro e w2 ⟨rfl, rfl⟩
        go_wp2_with fail
        refine (b_write_p HB2.out HO.out).mono ?_
        rintro e w3 ⟨⟨v3, rfl⟩, hb3⟩
        have HB3 := Lib.hid hb3
        clear hb3
        go_wp2_with fail
        refine (PLH.out _).mono ?_
        rintro e w4 ⟨rfl, rfl⟩
        go_wp2_with fail
        refine (b_write_q HB3.out HO.out).mono ?_
        rintro e w5 ⟨⟨v5, rfl⟩, hb5⟩
        have HBT := Lib.hid hb5
        clear hb5 hw9 MBH PLH
        go_wp2_with fail
        obtain ⟨lk1, lk2, e1, e2⟩ := HBT.out.locks
        have hok2 : (s.mput (x % 5)).Ok most := HO.out.mput (by omega) (by omega)
        have HOK2 := Lib.hid hok2
        have GP := Lib.hid (gc_same (P := fun w => w.cell? ⟨A, 2, none⟩ = some (.int .i64 ((s.mput (x % 5)).ph : Int))) e1 (fun _ _ h x => Ext.cell x h) (fun w h => phase_p h))
        have GK := Lib.hid (gc_of (P := fun w => LkAt w K (s.mput (x % 5)).W (s.mput (x % 5)).n (s.mput (x % 5)).T) lk1 (fun _ _ h x => BlkR.ext h x) (fun w h => bytes_p h (Nat.lt_of_lt_of_le hok2.W (by decide)) hok2.T))
        have GQ := Lib.hid (gc_of (P := fun w => LkAt w Q (s.mput (x % 5)).W (s.mput (x % 5)).n (s.mput (x % 5)).T) lk2 (fun _ _ h x => BlkR.ext h x) (fun w h => bytes_q h (Nat.lt_of_lt_of_le hok2.W (by decide)) hok2.T))
        have g2 := ext_cells e2
        generalize lkTx (s.mput (x % 5)).W (s.mput (x % 5)).n (s.mput (x % 5)).T 8 = Zt at GK GQ
        generalize ((s.mput (x % 5)).ph : Int) = php at GP g2
        clear lk1 lk2 e1 e2 hok2
        have mixed : Tryz.prog.follows .mixedOrders = true := by kernel_rfl
        refine wp_region_quiet_grown (by assumption) (by kernel_rfl) ?_
        repeat (first | go_big_quiet_step (first | (go_at_call 36; refine Calls.grown_of (GP.out _ _)) | (go_at_call 34; refine Calls.grown_of (GK.out _ _)) | (go_at_call 35; refine Calls.grown_of (GQ.out _ _))) | quiet_step (first | (go_at_call 36; refine Calls.grown_of (GP.out _ _)) | (go_at_call 34; refine Calls.grown_of (GK.out _ _)) | (go_at_call 35; refine Calls.grown_of (GQ.out _ _))))
        refine wpQuiet_nil ?_
        intro _ hw'
        obtain ⟨pp, hw''⟩ := hw'
        subst hw''
        have hx0 : Ext w5 (grow (w5.drewN pp.n) pp.os) := grow_ext
        generalize grow (w5.drewN pp.n) pp.os = W0 at hx0 ⊢
        have HBE := Lib.hid (HBT.out.stay (Turned.ext hx0))
        clear GP GK GQ g2 hx0
        go_wp2_with fail
        go_roundw
        case rel => exact ⟨t + 1, s.mput (x % 5), by omega, by go_num, congrArg (Value.int .u64) E1.out.symm, (Nat.succ_le_succ hvt), HOK2.out, _, _, HBE.out⟩
        case measure => simp [intOf]; omega
      have k9 : (what == 9) = false := by simpa using h9
      clear h6 h7 h8 h9
      by_cases hp : s.ph < 4
      · have hv' : (s.bg most).v = s.v := by
          unfold Ps.bg
          split
          · rfl
          · split <;> rfl
        have HV := Lib.hid hv'
        clear hv'
        go_wp2_with fail
        refine (b_begin_p HB1.out HO.out hp).mono ?_
        rintro e w1 ⟨rfl, hb1⟩
        have HB2 := Lib.hid hb1
        clear hb1 y0 y1
        go_wp2_with fail
        refine (b_begin_q HB2.out HO.out hp).mono ?_
        rintro e w2 ⟨rfl, hb2⟩
        have HB3 := Lib.hid hb2
        clear hb2
        go_wp2_with fail
        refine (code_0 w2).mono ?_
        rintro e w3 ⟨rfl, t3⟩
        have HBT := Lib.hid (HB3.out.stay t3)
        clear t3
        go_wp2_with fail
        obtain ⟨lk1, lk2, e1, e2⟩ := HBT.out.locks
        have hok2 : (s.bg most).Ok most := HO.out.bg hp
        have HOK2 := Lib.hid hok2
        have GP := Lib.hid (gc_same (P := fun w => w.cell? ⟨A, 2, none⟩ = some (.int .i64 ((s.bg most).ph : Int))) e1 (fun _ _ h x => Ext.cell x h) (fun w h => phase_p h))
        have GK := Lib.hid (gc_of (P := fun w => LkAt w K (s.bg most).W (s.bg most).n (s.bg most).T) lk1 (fun _ _ h x => BlkR.ext h x) (fun w h => bytes_p h (Nat.lt_of_lt_of_le hok2.W (by decide)) hok2.T))
        have GQ := Lib.hid (gc_of (P := fun w => LkAt w Q (s.bg most).W (s.bg most).n (s.bg most).T) lk2 (fun _ _ h x => BlkR.ext h x) (fun w h => bytes_q h (Nat.lt_of_lt_of_le hok2.W (by decide)) hok2.T))
        have g2 := ext_cells e2
        generalize lkTx (s.bg most).W (s.bg most).n (s.bg most).T 8 = Zt at GK GQ
        generalize ((s.bg most).ph : Int) = php at GP g2
        clear lk1 lk2 e1 e2 hok2
        have mixed : Tryz.prog.follows .mixedOrders = true := by kernel_rfl
        refine wp_region_quiet_grown (by assumption) (by kernel_rfl) ?_
        repeat (first | go_big_quiet_step (first | (go_at_call 36; refine Calls.grown_of (GP.out _ _)) | (go_at_call 34; refine Calls.grown_of (GK.out _ _)) | (go_at_call 35; refine Calls.grown_of (GQ.out _ _))) | quiet_step (first | (go_at_call 36; refine Calls.grown_of (GP.out _ _)) | (go_at_call 34; refine Calls.grown_of (GK.out _ _)) | (go_at_call 35; refine Calls.grown_of (GQ.out _ _))))
        refine wpQuiet_nil ?_
        intro _ hw'
        obtain ⟨pp, hw''⟩ := hw'
        subst hw''
        have hx0 : Ext w3 (grow (w3.drewN pp.n) pp.os) := grow_ext
        generalize grow (w3.drewN pp.n) pp.os = W0 at hx0 ⊢
        have HBE := Lib.hid (HBT.out.stay (Turned.ext hx0))
        clear GP GK GQ g2 hx0
        go_wp2_with fail
        go_roundw
        case rel => exact ⟨t + 1, s.bg most, by omega, by go_num, by rw [HV.out], (by rw [HV.out]; exact Nat.le_succ_of_le hvt), HOK2.out, _, _, HBE.out⟩
        case measure => simp [intOf]; omega
      by_cases h5 : s.ph = 5
      · go_wp2_with fail
        refine (b_last5_p HB1.out HO.out h5).mono ?_
        rintro e w1 ⟨rfl, t1, k1, x1', q, hq, e1, e2, e3, e4, hqf, n1, n2⟩
        have hc := b_last5_q hq t1 hqf HO.out h5 k1 x1' n1 n2
        have e1' : q.F = F2 := e1
        have e2' : q.K = Q := e2
        have e3' : q.P = Z := e3
        have e4' : q.A = B := e4
        rw [e1', e2', e3', e4'] at hc
        have HC5 := Lib.hid hc
        clear hc hq hqf e1 e2 e3 e4 e1' e2' e3' e4' n1 n2 t1 k1 x1' y0 y1
        go_wp2_with fail
        refine HC5.out.mono ?_
        rintro e w2 ⟨rfl, t2, k2, a2, k3, a3⟩
        have T2 := Lib.hid t2; have K2 := Lib.hid k2; have A2 := Lib.hid a2; have K3 := Lib.hid k3; have A3 := Lib.hid a3
        clear t2 k2 a2 k3 a3 HC5
        go_wp2_with fail
        refine (code_19 (T2.out.cell HG.out (by simp))).mono ?_
        rintro e w3 ⟨rfl, t3⟩
        have T3 := Lib.hid (T2.out.trans t3)
        have GT := Lib.hid (gc_same (P := fun w => w.cell? ⟨A, 10, none⟩ = some (.pointer none)) (t3.cell A2.out (by simp)) (fun _ _ h x => Ext.cell x h) (fun w h => txn_p h))
        have GK := Lib.hid (gc_of (P := fun w => LkAt w K 0 s.n s.T) (BlkR.turned K2.out t3 (by simp)) (fun _ _ h x => BlkR.ext h x) (fun w h => bytes_p h (by decide) HO.out.T))
        have GQ := Lib.hid (gc_of (P := fun w => LkAt w Q 0 s.n s.T) (BlkR.turned K3.out t3 (by simp)) (fun _ _ h x => BlkR.ext h x) (fun w h => bytes_q h (by decide) HO.out.T))
        have g2 := ext_cells (t3.cell A3.out (by simp))
        generalize lkTx 0 s.n s.T 8 = Zt at GK GQ
        clear t3 T2 K2 A2 K3 A3
        go_wp2_with fail
        have mixed : Tryz.prog.follows .mixedOrders = true := by kernel_rfl
        refine wp_region_quiet_grown (by assumption) (by kernel_rfl) ?_
        repeat (first | go_big_quiet_step (first | (go_at_call 29; refine Calls.grown_of (GT.out _ _)) | (go_at_call 34; refine Calls.grown_of (GK.out _ _)) | (go_at_call 35; refine Calls.grown_of (GQ.out _ _))) | quiet_step (first | (go_at_call 29; refine Calls.grown_of (GT.out _ _)) | (go_at_call 34; refine Calls.grown_of (GK.out _ _)) | (go_at_call 35; refine Calls.grown_of (GQ.out _ _))))
        refine wpQuiet_nil ?_
        intro _ hw'
        obtain ⟨pp, hw''⟩ := hw'
        subst hw''
        have hx0 : Ext w3 (grow (w3.drewN pp.n) pp.os) := grow_ext
        generalize grow (w3.drewN pp.n) pp.os = W0 at hx0 ⊢
        have HZZ := Lib.hid (T3.out.trans (Turned.ext hx0))
        clear GT GK GQ g2 hx0
        go_wp2_with fail
        go_ret
        exact ⟨rfl, HZZ.out.stays⟩
      · have h4 : s.ph = 4 := by have := HO.out.ph; omega
        go_wp2_with fail
        refine (b_last4_p HB1.out HO.out h4 HM.out).mono ?_
        rintro e w1 ⟨rfl, t1, k1, TB, τ, SB, θ, x1', y1', q, hq, e1, e2, e3, e4, hqf, n1, n2, n3, n4⟩
        have hc := b_last4_q hq t1 hqf HO.out h4 HM.out k1 x1' y1' n1 n2 n3 n4
        have e1' : q.F = F2 := e1
        have e2' : q.K = Q := e2
        have e3' : q.P = Z := e3
        have e4' : q.A = B := e4
        rw [e1', e2', e3', e4'] at hc
        have HC5 := Lib.hid hc
        clear hc hq hqf e1 e2 e3 e4 e1' e2' e3' e4' n1 n2 n3 n4 t1 k1 x1' y1' y0 y1
        go_wp2_with fail
        refine HC5.out.mono ?_
        rintro e w2 ⟨rfl, t2, k2, a2, tx2, k3, TQ, τ', SQ, θ', a3, tx3⟩
        have T2 := Lib.hid t2; have K2 := Lib.hid k2; have A2 := Lib.hid a2; have K3 := Lib.hid k3; have A3 := Lib.hid a3; have X2 := Lib.hid tx2; have X3 := Lib.hid tx3
        clear t2 k2 a2 k3 a3 tx2 tx3 HC5
        go_wp2_with fail
        refine (code_0 w2).mono ?_
        rintro e w3 ⟨rfl, t3⟩
        have T3 := Lib.hid (T2.out.trans t3)
        have x2 := X2.out.turned t3 (by simp) (by simp)
        have x3' := X3.out.turned t3 (by simp) (by simp)
        have GT := Lib.hid (gc_same (P := fun w => w.cell? ⟨A, 10, none⟩ = some (.pointer (some ⟨TB, τ, none⟩))) (t3.cell A2.out (by simp)) (fun _ _ h x => Ext.cell x h) (fun w h => txn_p h))
        have GM0 := gc_of (P := fun w => ∀ (k : Nat) (v : Value), (metaV s.ma s.mb)[k]? = some v → w.cell? ⟨TB, τ + k, none⟩ = some v) x2.1 (fun _ _ h x k v hk => Ext.cell x (h k v hk)) (fun w h => meta_p h)
        have GM1 : GC 30 #[.pointer (some ⟨TB, τ, none⟩)] (.agg #[.int .u64 (s.ma : Int), .int .i64 0, .int .i64 0, .int .i64 0, .int .i64 0, .int .i64 (s.mb : Int)]) w3 := GM0
        have GM := Lib.hid GM1
        clear GM0 GM1
        have GS := Lib.hid (gc_same (P := fun w => w.cell? ⟨TB, τ + 7, none⟩ = some (.pointer (some ⟨SB, θ, none⟩))) x2.2.1 (fun _ _ h x => Ext.cell x h) (fun w h => store_p h))
        have GA := Lib.hid (gc_same (P := fun w => w.cell? ⟨SB, θ + 3, none⟩ = some (.slice none 0 0)) x2.2.2 (fun _ _ h x => Ext.cell x h) (fun w h => avail_p h))
        have GI := Lib.hid (gc_same (W := w3) (P := fun _ => True) trivial (fun _ _ _ _ => trivial) (fun w _ => ints_0 w))
        have GK := Lib.hid (gc_of (P := fun w => LkAt w K s.W s.n s.T) (BlkR.turned K2.out t3 (by simp)) (fun _ _ h x => BlkR.ext h x) (fun w h => bytes_p h (Nat.lt_of_lt_of_le HO.out.W (by decide)) HO.out.T))
        have GQ := Lib.hid (gc_of (P := fun w => LkAt w Q s.W s.n s.T) (BlkR.turned K3.out t3 (by simp)) (fun _ _ h x => BlkR.ext h x) (fun w h => bytes_q h (Nat.lt_of_lt_of_le HO.out.W (by decide)) HO.out.T))
        have g2 := ext_cells (t3.cell A3.out (by simp))
        have m0 : w3.cell? ⟨TQ, τ', none⟩ = some (.int .u64 (s.ma : Int)) := x3'.1 0 _ rfl
        have m1 : w3.cell? ⟨TQ, τ' + 1, none⟩ = some (.int .i64 0) := x3'.1 1 _ rfl
        have m2 : w3.cell? ⟨TQ, τ' + 2, none⟩ = some (.int .i64 0) := x3'.1 2 _ rfl
        have m3 : w3.cell? ⟨TQ, τ' + 3, none⟩ = some (.int .i64 0) := x3'.1 3 _ rfl
        have m4 : w3.cell? ⟨TQ, τ' + 4, none⟩ = some (.int .i64 0) := x3'.1 4 _ rfl
        have m5 : w3.cell? ⟨TQ, τ' + 5, none⟩ = some (.int .i64 (s.mb : Int)) := x3'.1 5 _ rfl
        have q0 := ext_cells m0
        have q1 := ext_cells m1
        have q2 := ext_cells m2
        have q3 := ext_cells m3
        have q4 := ext_cells m4
        have q5 := ext_cells m5
        have q9 := ext_cells x3'.2.1
        have q10 := ext_cells x3'.2.2
        have HEQ := fun W => run_eql_meta (s.ma : Int) (s.mb : Int) W
        have hgd : Tryz.prog.eqGuardType Tryz.prog.depth 69 = false := by kernel_rfl
        generalize lkTx s.W s.n s.T 8 = Zt at GK GQ
        generalize (s.ma : Int) = ma at *
        generalize (s.mb : Int) = mb at *
        clear t3 T2 K2 A2 K3 A3 X2 X3 x2 x3' m0 m1 m2 m3 m4 m5
        go_wp2_with fail
        have mixed : Tryz.prog.follows .mixedOrders = true := by kernel_rfl
        refine wp_region_quiet_grown (by assumption) (by kernel_rfl) ?_
        repeat (first | go_big_quiet_step (first | (go_at_call 29; refine Calls.grown_of (GT.out _ _)) | (go_at_call 30; refine Calls.grown_of (GM.out _ _)) | (go_at_call 32; refine Calls.grown_of (GS.out _ _)) | (go_at_call 33; refine Calls.grown_of (GA.out _ _)) | (go_at_call 31; refine Calls.grown_of (GI.out _ _)) | (go_at_call 34; refine Calls.grown_of (GK.out _ _)) | (go_at_call 35; refine Calls.grown_of (GQ.out _ _))) | quiet_step (first | (go_at_call 29; refine Calls.grown_of (GT.out _ _)) | (go_at_call 30; refine Calls.grown_of (GM.out _ _)) | (go_at_call 32; refine Calls.grown_of (GS.out _ _)) | (go_at_call 33; refine Calls.grown_of (GA.out _ _)) | (go_at_call 31; refine Calls.grown_of (GI.out _ _)) | (go_at_call 34; refine Calls.grown_of (GK.out _ _)) | (go_at_call 35; refine Calls.grown_of (GQ.out _ _))))
        refine wpQuiet_nil ?_
        intro _ hw'
        obtain ⟨pp, hw''⟩ := hw'
        subst hw''
        have hx0 : Ext w3 (grow (w3.drewN pp.n) pp.os) := grow_ext
        generalize grow (w3.drewN pp.n) pp.os = W0 at hx0 ⊢
        have HZZ := Lib.hid (T3.out.trans (Turned.ext hx0))
        clear GT GM GS GA GI GK GQ g2 q0 q1 q2 q3 q4 q5 q9 q10 HEQ hx0
        go_wp2_with fail
        go_ret
        exact ⟨rfl, HZZ.out.stays⟩
    · obtain rfl : t = l.length := by omega
      go_wp2_with fail
      go_ret
      exact ⟨rfl, HBR.out.old.stays⟩
end Go.Proofs.YtgjnadligocdkaaGreatDoor
