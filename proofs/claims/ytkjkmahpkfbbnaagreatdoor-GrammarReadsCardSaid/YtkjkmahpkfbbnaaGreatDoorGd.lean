/-
  Contracts of functions of the program, walked over their shallow forms. No condition but the ones that each states.
-/
import Derived.Test.YtkjkmahpkfbbnaaGreatDoorGc
import Derived.Test.YtkjkmahpkfbbnaaGreatDoorCaughtB
import Derived.Test.YtkjkmahpkfbbnaaGreatDoorGramMem2
import Derived.Test.YtkjkmahpkfbbnaaGreatDoorFL
namespace Go.Proofs.YtkjkmahpkfbbnaaGreatDoor
open Go Go.Sh
set_option linter.unusedVariables false
set_option maxRecDepth 100000


/-- greenscreen/grammar.Parse -/
theorem c_gr_Parse {A : Option Addr} {n cp : Nat} {bs : List Int} {w : World} (rd1 : Rd w A (vals .u8 bs)) (hn : n = bs.length) (hc : n ≤ cp) (hbs : Bs bs) (hbd : n ≤ 100000) :
    Calls Tryz.prog 9 #[.slice A n cp] w fun e w' => ∃ v, e = .returned v ∧ ∃ (q : Gs.Inb) (l : List Gs.It) (A' : Option Addr) (c' : Nat), q = Gs.inbV bs ∧ q.items = Gs.its l ∧ v = .tuple #[.agg #[.int .u8 q.aid, .bool q.alone, .int .i64 q.cur, .slice A' l.length c'], .int .i64 (Gs.errV (Gs.inbF bs))] ∧ Rd w' A' (rows Gs.ie l) ∧ Gs.Cl w' l ∧ Gs.Iw l ∧ GeA A' (rows Gs.ie l) w.heap.size ∧ Gs.GeC l w.heap.size ∧ (0 ≤ q.aid ∧ q.aid ≤ 255) ∧ Upd no w w' := by
  refine F9.calls ?_
  unfold F9
  have lt_rd1 := rd1.lt
  have hF : Upd no w w := Fr.refl _ _ _
  refine alloc_intro (cs := #[.int .u8 0, .bool false, .int .i64 0, .slice none 0 0]) (by kernel_rfl) (fun b1 w1 e1 h_b1 _ U1 => ?_)
  have na_rd1_b1 := rd1.apart e1
  have ge_b1 : w.heap.size ≤ b1 := by have := hF.size; omega
  replace rd1 := rd1.upd0 U1
  replace hF := hF.go0 U1
  clear e1
  refine callF_ex (c_caught_inb rd1 hn hc hbs hbd) (fun v2 w2 D2 => ?_)
  obtain ⟨q5, l5, A5, c5, hq5, hi5, rfl, rd5, rdc5, hw5, gA5, gC05, ha5, U2⟩ := D2
  have gC5 : Gs.GeC l5 _ := .inr gC05
  have qF5 := hF.size
  have na_rd5_b1 := gA5.ne (lt_get h_b1)
  have na_rdc5_b1 := gC5.ne (lt_get h_b1)
  replace rd1 := rd1.upd0 U2
  replace h_b1 := U2.get0 h_b1
  replace hF := hF.go0 U2
  refine opv_run (ext_t (by rfl)) ?_
  refine opv_run (ext_t (by rfl)) ?_
  refine store_intro (n := 4) (cs' := #[.int .u8 q5.aid, .bool q5.alone, .int .i64 q5.cur, .slice A5 l5.length c5]) (by kernel_rfl) (by rfl) (by first | rfl | (simp [Value.cells, Value.oneCell', Gs.cv, Gs.ie]; done)) h_b1 (by first | exact Nat.le_of_ble_eq_true rfl | (simp; done) | omega) (by rfl) (fun w3 N3 _ U3 => ?_)
  replace rd1 := rd1.upd1 U3 na_rd1_b1
  replace rd5 := rd5.upd1 U3 na_rd5_b1
  replace rdc5 := rdc5.upd1 U3 na_rdc5_b1
  replace h_b1 := N3
  replace hF := hF.go1 U3 ge_b1
  refine ldv_run (ldA (n := 4) (by kernel_rfl) h_b1 (by first | exact Nat.le_of_ble_eq_true rfl | simp | omega) (by rfl)) ?_
  exact ⟨_, rfl, q5, l5, A5, c5, hq5, hi5, rfl, rd5, rdc5, hw5, gA5.mono qF5, gC5.mono qF5, ha5, hF⟩

/-- greenscreen/grammar.Buffer -/
theorem c_gr_Buffer {A : Option Addr} {n cp : Nat} {bs : List Int} {w : World} (rd1 : Rd w A (vals .u8 bs)) (hn : n = bs.length) (hc : n ≤ cp) (hbs : Bs bs) (hbd : n ≤ 100000) :
    Calls Tryz.prog 13 #[.slice A n cp] w fun e w' => ∃ v, e = .returned v ∧ ∃ (a c : Int) (xs : List Gs.Cell) (A' : Option Addr) (c' : Nat), (a, c, xs) = Gs.bufV bs ∧ v = .tuple #[.int .u8 a, .int .i64 c, .slice A' xs.length c', .int .i64 (Gs.errV (Gs.bufF bs))] ∧ Rd w' A' (rows Gs.cv xs) ∧ Gs.Cws xs ∧ GeA A' (rows Gs.cv xs) w.heap.size ∧ Upd no w w' := by
  refine F13.calls ?_
  unfold F13
  have lt_rd1 := rd1.lt
  have hF : Upd no w w := Fr.refl _ _ _
  refine callF_ex (c_caught_scr rd1 hn hc hbs hbd) (fun v1 w1 D1 => ?_)
  obtain ⟨a10, k10, xs10, A10, c10, hq10, rfl, rd10, hw10, gA10, U1⟩ := D1
  have qF10 := hF.size
  replace rd1 := rd1.upd0 U1
  replace hF := hF.go0 U1
  refine opv_run (ext_t (by rfl)) ?_
  refine opv_run (ext_t (by rfl)) ?_
  refine alloc_intro (cs := #[.int .u8 0, .int .i64 0, .slice none 0 0]) (by kernel_rfl) (fun b2 w2 e2 h_b2 _ U2 => ?_)
  have na_rd1_b2 := rd1.apart e2
  have na_rd10_b2 := rd10.apart e2
  have ge_b2 : w.heap.size ≤ b2 := by have := hF.size; omega
  replace rd1 := rd1.upd0 U2
  replace rd10 := rd10.upd0 U2
  replace hF := hF.go0 U2
  clear e2
  refine store_intro (n := 3) (cs' := #[.int .u8 a10, .int .i64 k10, .slice A10 xs10.length c10]) (by kernel_rfl) (by rfl) (by first | rfl | (simp [Value.cells, Value.oneCell', Gs.cv, Gs.ie]; done)) h_b2 (by first | exact Nat.le_of_ble_eq_true rfl | (simp; done) | omega) (by rfl) (fun w3 N3 _ U3 => ?_)
  replace rd1 := rd1.upd1 U3 na_rd1_b2
  replace rd10 := rd10.upd1 U3 na_rd10_b2
  replace h_b2 := N3
  replace hF := hF.go1 U3 ge_b2
  refine drawn_S (S := no) (fun w4 U4 => ?_)
  replace rd1 := rd1.upd0 U4
  replace rd10 := rd10.upd0 U4
  replace h_b2 := U4.get0 h_b2
  replace hF := hF.go0 U4
  refine qop_run (fun w' hw' => (fieldAt_eq (off := 0) (by kernel_rfl))) ?_
  refine qop_run (fun w' hw' => by have h_b2 := hw'.get0 h_b2; exact (ldC (by kernel_rfl) h_b2 (by rfl))) ?_
  refine qop_run (fun w' hw' => (fieldAt_eq (off := 1) (by kernel_rfl))) ?_
  refine qop_run (fun w' hw' => by have h_b2 := hw'.get0 h_b2; exact (ldC (by kernel_rfl) h_b2 (by rfl))) ?_
  refine qop_run (fun w' hw' => (fieldAt_eq (off := 2) (by kernel_rfl))) ?_
  refine qop_run (fun w' hw' => by have h_b2 := hw'.get0 h_b2; exact (ldC (by kernel_rfl) h_b2 (by rfl))) ?_
  refine ext_intro (fun w5 U5 => ?_)
  replace rd1 := rd1.upd0 U5
  replace rd10 := rd10.upd0 U5
  replace h_b2 := U5.get0 h_b2
  replace hF := hF.go0 U5
  exact ⟨_, rfl, a10, k10, xs10, A10, c10, hq10, rfl, rd10, hw10, gA10.mono qF10, hF⟩

/-- slices.Equal[[]greenscreen/api.Cell,greenscreen/api.Cell] -/
theorem c_sl_Equal {A B : Option Addr} {n1 n2 c1 c2 : Nat} {xs ys : List Gs.Cell} {w : World} (rd1 : Rd w A (rows Gs.cv xs)) (hn1 : n1 = xs.length) (rd2 : Rd w B (rows Gs.cv ys)) (hn2 : n2 = ys.length) (hbd : n1 ≤ 100000) :
    Calls Tryz.prog 47 #[.slice A n1 c1, .slice B n2 c2] w fun e w' => e = .returned (.bool (decide (xs = ys))) ∧ Upd no w w' := by
  refine F47.calls ?_
  unfold F47
  have lt_rd1 := rd1.lt
  have lt_rd2 := rd2.lt
  have hF : Upd no w w := Fr.refl _ _ _
  refine opv_run (len_sl (by kernel_rfl) _ _ _) ?_
  refine opv_run (len_sl (by kernel_rfl) _ _ _) ?_
  refine opv_dec (neI _ _ _ _ _) (fun h1 => ?_) (fun h1 => ?_)
  · refine condt ?_
    first | exact ⟨retT (by assumption), hF⟩ | exact ⟨retF (fun he => by subst he; omega), hF⟩ | exact ⟨retF (fun he => by subst he; have := Option.some.inj (hx?.symm.trans hx?); exact absurd this (by assumption)), hF⟩
  · refine condf ?_
    refine join_cut (fun g w' => (xs = ys) ∧ (Upd no w w')) (fun J1 hJ1 => ?_) (fun gJ1 wJ1 hI => ?_)
    · refine opv_run (len_sl (by kernel_rfl) _ _ _) ?_
      refine loop_intro (fun g w' => ∃ (k : Nat), (g 13 = .int .i64 (k : Int)) ∧ (k ≤ xs.length) ∧ (xs.take k = ys.take k) ∧ (Rd w' A (rows Gs.cv xs)) ∧ (Rd w' B (rows Gs.cv ys)) ∧ (Upd no w w')) (fun g w' => xs.length - (RowKit.intOf (g 13)).toNat) ?_ (fun g2 wl2 hI => ?_)
      · exact ⟨0, (by first | exact g13 | rfl), Nat.zero_le _, rfl, rd1, rd2, hF⟩
      · obtain ⟨k, g13, hk, hall, rd1, rd2, hF⟩ := hI
        try rw [g13]
        refine opv_dec (lss _ _ _ _) (fun h3 => ?_) (fun h3 => ?_)
        · refine condt ?_
          refine drawn_S (S := no) (fun w4 U4 => ?_)
          replace rd1 := rd1.upd0 U4
          replace rd2 := rd2.upd0 U4
          replace hF := hF.go0 U4
          refine qidx Gs.encC (by kernel_rfl) (by kernel_rfl) (fun w' hw' => rd1.upd0 hw') (Fr.refl _ _ _) (by first | rfl | assumption | omega) (by omega) (by omega) (fun x5 hx5 => ?_)
          try simp only [Int.toNat_natCast] at hx5
          refine qidx Gs.encC (by kernel_rfl) (by kernel_rfl) (fun w' hw' => rd2.upd0 hw') (Fr.refl _ _ _) (by first | rfl | assumption | omega) (by omega) (by omega) (fun x6 hx6 => ?_)
          try simp only [Int.toNat_natCast] at hx6
          refine qop_dec (fun w' hw' => (ne_Cell _)) (fun h7 => ?_) (fun h7 => ?_)
          · refine ext_intro (fun w8 U8 => ?_)
            replace rd1 := rd1.upd0 U8
            replace rd2 := rd2.upd0 U8
            replace hF := hF.go0 U8
            refine condt ?_
            first | exact ⟨retT (by assumption), hF⟩ | exact ⟨retF (fun he => by subst he; omega), hF⟩ | exact ⟨retF (fun he => by subst he; have := Option.some.inj (hx5.symm.trans hx6); exact absurd this (by assumption)), hF⟩
          · refine ext_intro (fun w10 U10 => ?_)
            replace rd1 := rd1.upd0 U10
            replace rd2 := rd2.upd0 U10
            replace hF := hF.go0 U10
            refine condf ?_
            first | refine opv_run (add_i64 _ (by omega)) ?_ | refine opv_run (addI _ _ _ _) ?_
            exact ⟨⟨k + 1, (by first | exact g13 | rfl), by omega, (Gs.cs_same hall hx5 hx6 (by by_cases hq : x5 = x6; exact hq; contradiction)), rd1, rd2, hF⟩, cnt_lt (by first | rfl | exact g13) rfl (by omega)⟩
        · refine condf ?_
          refine hJ1 _ _ ?_
          exact ⟨(take_all hall (by omega) (by omega)), hF⟩
    · obtain ⟨hall, hF⟩ := hI
      first | exact ⟨retT (by assumption), hF⟩ | exact ⟨retF (fun he => by subst he; omega), hF⟩ | exact ⟨retF (fun he => by subst he; have := Option.some.inj (hx5.symm.trans hx6); exact absurd this (by assumption)), hF⟩

/-- greenscreen/grammar.Same$1 -/
theorem c_gr_Same1 {p1 p2 : Int} {A B : Option Addr} {n1 n2 c1 c2 : Nat} {xs ys : List Gs.Cell} {w : World} (rd1 : Rd w A (rows Gs.cv xs)) (hn1 : n1 = xs.length) (rd2 : Rd w B (rows Gs.cv ys)) (hn2 : n2 = ys.length) (hbd : n1 ≤ 100000) :
    Calls Tryz.prog 46 #[.agg #[.int .i64 p1, .slice A n1 c1], .agg #[.int .i64 p2, .slice B n2 c2]] w fun e w' => e = .returned (.bool (decide (p1 = p2 ∧ xs = ys))) ∧ Upd no w w' := by
  refine F46.calls ?_
  unfold F46
  have lt_rd1 := rd1.lt
  have lt_rd2 := rd2.lt
  have hF : Upd no w w := Fr.refl _ _ _
  refine box_intro (cs := #[.int .i64 p1, .slice A n1 c1]) (by rfl) (fun b1 w1 e1 h_b1 _ U1 => ?_)
  have na_rd1_b1 := rd1.apart e1
  have na_rd2_b1 := rd2.apart e1
  have ge_b1 : w.heap.size ≤ b1 := by have := hF.size; omega
  replace rd1 := rd1.upd0 U1
  replace rd2 := rd2.upd0 U1
  replace hF := hF.go0 U1
  clear e1
  refine box_intro (cs := #[.int .i64 p2, .slice B n2 c2]) (by rfl) (fun b2 w2 e2 h_b2 _ U2 => ?_)
  have na_rd1_b2 := rd1.apart e2
  have na_rd2_b2 := rd2.apart e2
  have ne_b1_b2 : b1 ≠ b2 := by have := lt_get h_b1; omega
  have ge_b2 : w.heap.size ≤ b2 := by have := hF.size; omega
  replace rd1 := rd1.upd0 U2
  replace rd2 := rd2.upd0 U2
  replace h_b1 := U2.get0 h_b1
  replace hF := hF.go0 U2
  clear e2
  refine opv_run (fieldAt_eq (off := 0) (by kernel_rfl)) ?_
  refine opv_run (ldC (by kernel_rfl) h_b1 (by rfl)) ?_
  refine opv_run (fieldAt_eq (off := 0) (by kernel_rfl)) ?_
  refine opv_run (ldC (by kernel_rfl) h_b2 (by rfl)) ?_
  refine opv_dec (eqI _ _ _ _ _) (fun h3 => ?_) (fun h3 => ?_)
  · refine gdtt ?_
    refine opv_run (fieldAt_eq (off := 1) (by kernel_rfl)) ?_
    refine gdtt ?_
    refine opv_run (ldC (by kernel_rfl) h_b1 (by rfl)) ?_
    refine gdtt ?_
    refine opv_run (fieldAt_eq (off := 1) (by kernel_rfl)) ?_
    refine gdtt ?_
    refine opv_run (ldC (by kernel_rfl) h_b2 (by rfl)) ?_
    refine gdtt ?_
    refine callF_val (c_sl_Equal rd1 hn1 rd2 hn2 hbd) (fun w4 U4 => ?_)
    replace rd1 := rd1.upd0 U4
    replace rd2 := rd2.upd0 U4
    replace h_b1 := U4.get0 h_b1
    replace h_b2 := U4.get0 h_b2
    replace hF := hF.go0 U4
    refine pickt ?_
    first | exact ⟨congrArg (fun b => Ending.returned (.bool b)) (decide_eq_decide.2 ⟨fun h => ⟨by assumption, h⟩, fun h => h.2⟩), hF⟩ | exact ⟨retT ⟨by assumption, by assumption⟩, hF⟩ | exact ⟨retF (fun he => absurd he.1 (by assumption)), hF⟩ | exact ⟨retF (fun he => absurd he.2 (by assumption)), hF⟩
  · refine gdft ?_
    refine gdft ?_
    refine gdft ?_
    refine gdft ?_
    refine gdft ?_
    refine pickf ?_
    first | exact ⟨congrArg (fun b => Ending.returned (.bool b)) (decide_eq_decide.2 ⟨fun h => ⟨by assumption, h⟩, fun h => h.2⟩), hF⟩ | exact ⟨retT ⟨by assumption, by assumption⟩, hF⟩ | exact ⟨retF (fun he => absurd he.1 (by assumption)), hF⟩ | exact ⟨retF (fun he => absurd he.2 (by assumption)), hF⟩

/-- slices.EqualFunc[[]greenscreen/grammar.Item,[]greenscreen/grammar.Item,greenscreen/grammar.Item,greenscreen/grammar.Item] -/
theorem c_sl_EqualFunc {A1 A2 : Option Addr} {n1 n2 cp1 cp2 : Nat} {l1 l2 : List Gs.It} {w : World} (rd1 : Rd w A1 (rows Gs.ie l1)) (hn1 : n1 = l1.length) (rdc1 : Gs.Cl w l1) (rd2 : Rd w A2 (rows Gs.ie l2)) (hn2 : n2 = l2.length) (rdc2 : Gs.Cl w l2) (hbd : n1 ≤ 100000) (hcb : ∀ x ∈ l1, x.cs.length ≤ 100000) :
    Calls Tryz.prog 48 #[.slice A1 n1 cp1, .slice A2 n2 cp2, .func (.func 46) #[] #[]] w fun e w' => e = .returned (.bool (decide (Gs.its l1 = Gs.its l2))) ∧ Upd no w w' := by
  refine F48.calls ?_
  unfold F48
  have lt_rd1 := rd1.lt
  have lt_rdc1 := rdc1.lt
  have lt_rd2 := rd2.lt
  have lt_rdc2 := rdc2.lt
  have hF : Upd no w w := Fr.refl _ _ _
  refine opv_run (len_sl (by kernel_rfl) _ _ _) ?_
  refine opv_run (len_sl (by kernel_rfl) _ _ _) ?_
  refine opv_dec (neI _ _ _ _ _) (fun h1 => ?_) (fun h1 => ?_)
  · refine condt ?_
    first | exact ⟨retT (by assumption), hF⟩ | exact ⟨retF (fun he => by have := Gs.its_lenE he; omega), hF⟩ | exact ⟨retF (fun he => absurd (Gs.its_get he hx? hx?) (by assumption)), hF⟩
  · refine condf ?_
    refine join_cut (fun g w' => (Gs.its l1 = Gs.its l2) ∧ (Upd no w w')) (fun J1 hJ1 => ?_) (fun gJ1 wJ1 hI => ?_)
    · refine opv_run (len_sl (by kernel_rfl) _ _ _) ?_
      refine loop_intro (fun g w' => ∃ (k : Nat), (g 17 = .int .i64 (k : Int)) ∧ (k ≤ l1.length) ∧ (Gs.its (l1.take k) = Gs.its (l2.take k)) ∧ (Rd w' A1 (rows Gs.ie l1)) ∧ (Gs.Cl w' l1) ∧ (Rd w' A2 (rows Gs.ie l2)) ∧ (Gs.Cl w' l2) ∧ (Upd no w w')) (fun g w' => l1.length - (RowKit.intOf (g 17)).toNat) ?_ (fun g2 wl2 hI => ?_)
      · exact ⟨0, (by first | exact g17 | rfl), Nat.zero_le _, rfl, rd1, rdc1, rd2, rdc2, hF⟩
      · obtain ⟨k, g17, hk, hall, rd1, rdc1, rd2, rdc2, hF⟩ := hI
        try rw [g17]
        refine opv_dec (lss _ _ _ _) (fun h3 => ?_) (fun h3 => ?_)
        · refine condt ?_
          refine idx_rows Gs.encIt (by kernel_rfl) (by kernel_rfl) rd1 (by first | rfl | assumption | omega) (by omega) (by omega) (fun x4 hx4 => ?_)
          try simp only [Int.toNat_natCast] at hx4
          refine alloc_intro (cs := #[.int .i64 0, .slice none 0 0]) (by kernel_rfl) (fun b5 w5 e5 h_b5 _ U5 => ?_)
          have na_rd1_b5 := rd1.apart e5
          have na_rdc1_b5 := rdc1.apart e5
          have na_rd2_b5 := rd2.apart e5
          have na_rdc2_b5 := rdc2.apart e5
          have ge_b5 : w.heap.size ≤ b5 := by have := hF.size; omega
          replace rd1 := rd1.upd0 U5
          replace rdc1 := rdc1.upd0 U5
          replace rd2 := rd2.upd0 U5
          replace rdc2 := rdc2.upd0 U5
          replace hF := hF.go0 U5
          clear e5
          refine store_intro (n := 2) (cs' := (Gs.ie x4).toArray) (by kernel_rfl) (by rfl) (by first | rfl | (simp [Value.cells, Value.oneCell', Gs.cv, Gs.ie]; done)) h_b5 (by first | exact Nat.le_of_ble_eq_true rfl | (simp; done) | omega) (by rfl) (fun w6 N6 _ U6 => ?_)
          replace rd1 := rd1.upd1 U6 na_rd1_b5
          replace rdc1 := rdc1.upd1 U6 na_rdc1_b5
          replace rd2 := rd2.upd1 U6 na_rd2_b5
          replace rdc2 := rdc2.upd1 U6 na_rdc2_b5
          replace h_b5 := N6
          replace hF := hF.go1 U6 ge_b5
          refine idx_rows Gs.encIt (by kernel_rfl) (by kernel_rfl) rd2 (by first | rfl | assumption | omega) (by omega) (by omega) (fun x7 hx7 => ?_)
          try simp only [Int.toNat_natCast] at hx7
          refine alloc_intro (cs := #[.int .i64 0, .slice none 0 0]) (by kernel_rfl) (fun b8 w8 e8 h_b8 _ U8 => ?_)
          have na_rd1_b8 := rd1.apart e8
          have na_rdc1_b8 := rdc1.apart e8
          have na_rd2_b8 := rd2.apart e8
          have na_rdc2_b8 := rdc2.apart e8
          have ne_b5_b8 : b5 ≠ b8 := by have := lt_get h_b5; omega
          have ge_b8 : w.heap.size ≤ b8 := by have := hF.size; omega
          replace rd1 := rd1.upd0 U8
          replace rdc1 := rdc1.upd0 U8
          replace rd2 := rd2.upd0 U8
          replace rdc2 := rdc2.upd0 U8
          replace h_b5 := U8.get0 h_b5
          replace hF := hF.go0 U8
          clear e8
          refine store_intro (n := 2) (cs' := (Gs.ie x7).toArray) (by kernel_rfl) (by rfl) (by first | rfl | (simp [Value.cells, Value.oneCell', Gs.cv, Gs.ie]; done)) h_b8 (by first | exact Nat.le_of_ble_eq_true rfl | (simp; done) | omega) (by rfl) (fun w9 N9 _ U9 => ?_)
          replace rd1 := rd1.upd1 U9 na_rd1_b8
          replace rdc1 := rdc1.upd1 U9 na_rdc1_b8
          replace rd2 := rd2.upd1 U9 na_rd2_b8
          replace rdc2 := rdc2.upd1 U9 na_rdc2_b8
          replace h_b5 := U9.get1 h_b5 ne_b5_b8
          replace h_b8 := N9
          replace hF := hF.go1 U9 ge_b8
          refine opv_run (ldA (n := 2) (cs' := (Gs.ie x4).toArray) (by kernel_rfl) h_b5 (by first | exact Nat.le_of_ble_eq_true rfl | (simp; done) | omega) (by rfl)) ?_
          refine opv_run (ldA (n := 2) (cs' := (Gs.ie x7).toArray) (by kernel_rfl) h_b8 (by first | exact Nat.le_of_ble_eq_true rfl | (simp; done) | omega) (by rfl)) ?_
          refine callY_of (by kernel_rfl) (callF_bool (c_gr_Same1 (rdc1.get hx4) rfl (rdc2.get hx7) rfl (hcb _ (List.mem_of_getElem? hx4))) (fun w10 U10 h10 => ?_) (fun w10 U10 h10 => ?_))
          · replace rd1 := rd1.upd0 U10
            replace rdc1 := rdc1.upd0 U10
            replace rd2 := rd2.upd0 U10
            replace rdc2 := rdc2.upd0 U10
            replace h_b5 := U10.get0 h_b5
            replace h_b8 := U10.get0 h_b8
            replace hF := hF.go0 U10
            simp only [decide_eq_true_eq, decide_eq_false_iff_not] at h10
            refine opv_run (notT) ?_
            refine condf ?_
            first | refine opv_run (add_i64 _ (by omega)) ?_ | refine opv_run (addI _ _ _ _) ?_
            exact ⟨⟨k + 1, (by first | exact g17 | rfl), by omega, (Gs.its_step hall hx4 hx7 (by assumption)), rd1, rdc1, rd2, rdc2, hF⟩, cnt_lt (by first | rfl | exact g17) rfl (by omega)⟩
          · replace rd1 := rd1.upd0 U10
            replace rdc1 := rdc1.upd0 U10
            replace rd2 := rd2.upd0 U10
            replace rdc2 := rdc2.upd0 U10
            replace h_b5 := U10.get0 h_b5
            replace h_b8 := U10.get0 h_b8
            replace hF := hF.go0 U10
            simp only [decide_eq_true_eq, decide_eq_false_iff_not] at h10
            refine opv_run (notF) ?_
            refine condt ?_
            first | exact ⟨retT (by assumption), hF⟩ | exact ⟨retF (fun he => by have := Gs.its_lenE he; omega), hF⟩ | exact ⟨retF (fun he => absurd (Gs.its_get he hx4 hx7) (by assumption)), hF⟩
        · refine condf ?_
          refine hJ1 _ _ ?_
          exact ⟨(Gs.its_all hall (by omega) (by omega)), hF⟩
    · obtain ⟨hall, hF⟩ := hI
      first | exact ⟨retT (by assumption), hF⟩ | exact ⟨retF (fun he => by have := Gs.its_lenE he; omega), hF⟩ | exact ⟨retF (fun he => absurd (Gs.its_get he hx4 hx7) (by assumption)), hF⟩

/-- greenscreen/grammar.Same -/
theorem c_gr_Same {aid1 cur1 : Int} {al1 : Bool} {A1 : Option Addr} {n1 cp1 : Nat} {l1 : List Gs.It} {aid2 cur2 : Int} {al2 : Bool} {A2 : Option Addr} {n2 cp2 : Nat} {l2 : List Gs.It} {w : World} (rd1 : Rd w A1 (rows Gs.ie l1)) (hn1 : n1 = l1.length) (rdc1 : Gs.Cl w l1) (rd2 : Rd w A2 (rows Gs.ie l2)) (hn2 : n2 = l2.length) (rdc2 : Gs.Cl w l2) (hbd : n1 ≤ 100000) (hcb : ∀ x ∈ l1, x.cs.length ≤ 100000) :
    Calls Tryz.prog 18 #[.agg #[.int .u8 aid1, .bool al1, .int .i64 cur1, .slice A1 n1 cp1], .agg #[.int .u8 aid2, .bool al2, .int .i64 cur2, .slice A2 n2 cp2]] w fun e w' => e = .returned (.bool (decide (⟨aid1, al1, cur1, Gs.its l1⟩ = (⟨aid2, al2, cur2, Gs.its l2⟩ : Gs.Inb)))) ∧ Upd no w w' := by
  refine F18.calls ?_
  unfold F18
  have lt_rd1 := rd1.lt
  have lt_rdc1 := rdc1.lt
  have lt_rd2 := rd2.lt
  have lt_rdc2 := rdc2.lt
  have hF : Upd no w w := Fr.refl _ _ _
  refine box_intro (cs := #[.int .u8 aid1, .bool al1, .int .i64 cur1, .slice A1 n1 cp1]) (by rfl) (fun b1 w1 e1 h_b1 _ U1 => ?_)
  have na_rd1_b1 := rd1.apart e1
  have na_rdc1_b1 := rdc1.apart e1
  have na_rd2_b1 := rd2.apart e1
  have na_rdc2_b1 := rdc2.apart e1
  have ge_b1 : w.heap.size ≤ b1 := by have := hF.size; omega
  replace rd1 := rd1.upd0 U1
  replace rdc1 := rdc1.upd0 U1
  replace rd2 := rd2.upd0 U1
  replace rdc2 := rdc2.upd0 U1
  replace hF := hF.go0 U1
  clear e1
  refine box_intro (cs := #[.int .u8 aid2, .bool al2, .int .i64 cur2, .slice A2 n2 cp2]) (by rfl) (fun b2 w2 e2 h_b2 _ U2 => ?_)
  have na_rd1_b2 := rd1.apart e2
  have na_rdc1_b2 := rdc1.apart e2
  have na_rd2_b2 := rd2.apart e2
  have na_rdc2_b2 := rdc2.apart e2
  have ne_b1_b2 : b1 ≠ b2 := by have := lt_get h_b1; omega
  have ge_b2 : w.heap.size ≤ b2 := by have := hF.size; omega
  replace rd1 := rd1.upd0 U2
  replace rdc1 := rdc1.upd0 U2
  replace rd2 := rd2.upd0 U2
  replace rdc2 := rdc2.upd0 U2
  replace h_b1 := U2.get0 h_b1
  replace hF := hF.go0 U2
  clear e2
  refine opv_run (fieldAt_eq (off := 0) (by kernel_rfl)) ?_
  refine opv_run (ldC (by kernel_rfl) h_b1 (by rfl)) ?_
  refine opv_run (fieldAt_eq (off := 0) (by kernel_rfl)) ?_
  refine opv_run (ldC (by kernel_rfl) h_b2 (by rfl)) ?_
  refine opv_dec (eqI _ _ _ _ _) (fun h3 => ?_) (fun h3 => ?_)
  · refine gdtt ?_
    refine opv_run (fieldAt_eq (off := 1) (by kernel_rfl)) ?_
    refine gdtt ?_
    refine opv_run (ldC (by kernel_rfl) h_b1 (by rfl)) ?_
    refine gdtt ?_
    refine opv_run (fieldAt_eq (off := 1) (by kernel_rfl)) ?_
    refine gdtt ?_
    refine opv_run (ldC (by kernel_rfl) h_b2 (by rfl)) ?_
    refine gdtt ?_
    refine opv_dec (eqB _ _ (by kernel_rfl) _ _) (fun h4 => ?_) (fun h4 => ?_)
    · refine pickt ?_
      refine gdtt ?_
      refine opv_run (fieldAt_eq (off := 2) (by kernel_rfl)) ?_
      refine gdtt ?_
      refine opv_run (ldC (by kernel_rfl) h_b1 (by rfl)) ?_
      refine gdtt ?_
      refine opv_run (fieldAt_eq (off := 2) (by kernel_rfl)) ?_
      refine gdtt ?_
      refine opv_run (ldC (by kernel_rfl) h_b2 (by rfl)) ?_
      refine gdtt ?_
      refine opv_dec (eqI _ _ _ _ _) (fun h5 => ?_) (fun h5 => ?_)
      · refine pickt ?_
        refine gdtt ?_
        refine opv_run (fieldAt_eq (off := 3) (by kernel_rfl)) ?_
        refine gdtt ?_
        refine opv_run (ldC (by kernel_rfl) h_b1 (by rfl)) ?_
        refine gdtt ?_
        refine opv_run (fieldAt_eq (off := 3) (by kernel_rfl)) ?_
        refine gdtt ?_
        refine opv_run (ldC (by kernel_rfl) h_b2 (by rfl)) ?_
        refine gdtt ?_
        refine gdtt ?_
        refine callF_val (c_sl_EqualFunc rd1 hn1 rdc1 rd2 hn2 rdc2 hbd hcb) (fun w6 U6 => ?_)
        replace rd1 := rd1.upd0 U6
        replace rdc1 := rdc1.upd0 U6
        replace rd2 := rd2.upd0 U6
        replace rdc2 := rdc2.upd0 U6
        replace h_b1 := U6.get0 h_b1
        replace h_b2 := U6.get0 h_b2
        replace hF := hF.go0 U6
        refine pickt ?_
        first | exact ⟨congrArg (fun b => Ending.returned (.bool b)) (decide_eq_decide.2 ⟨fun h => by subst_vars; simp_all, fun h => by injection h⟩), hF⟩ | exact ⟨retT (by subst_vars; simp_all), hF⟩ | exact ⟨retF (fun he => by injection he; first | contradiction | (subst_vars; simp_all)), hF⟩
      · refine pickt ?_
        refine gdft ?_
        refine gdft ?_
        refine gdft ?_
        refine gdft ?_
        refine gdft ?_
        refine gdft ?_
        refine pickf ?_
        first | exact ⟨congrArg (fun b => Ending.returned (.bool b)) (decide_eq_decide.2 ⟨fun h => by subst_vars; simp_all, fun h => by injection h⟩), hF⟩ | exact ⟨retT (by subst_vars; simp_all), hF⟩ | exact ⟨retF (fun he => by injection he; first | contradiction | (subst_vars; simp_all)), hF⟩
    · refine pickt ?_
      refine gdft ?_
      refine gdft ?_
      refine gdft ?_
      refine gdft ?_
      refine gdft ?_
      refine pickf ?_
      refine gdft ?_
      refine gdft ?_
      refine gdft ?_
      refine gdft ?_
      refine gdft ?_
      refine gdft ?_
      refine pickf ?_
      first | exact ⟨congrArg (fun b => Ending.returned (.bool b)) (decide_eq_decide.2 ⟨fun h => by subst_vars; simp_all, fun h => by injection h⟩), hF⟩ | exact ⟨retT (by subst_vars; simp_all), hF⟩ | exact ⟨retF (fun he => by injection he; first | contradiction | (subst_vars; simp_all)), hF⟩
  · refine gdft ?_
    refine gdft ?_
    refine gdft ?_
    refine gdft ?_
    refine gdft ?_
    refine pickf ?_
    refine gdft ?_
    refine gdft ?_
    refine gdft ?_
    refine gdft ?_
    refine gdft ?_
    refine pickf ?_
    refine gdft ?_
    refine gdft ?_
    refine gdft ?_
    refine gdft ?_
    refine gdft ?_
    refine gdft ?_
    refine pickf ?_
    first | exact ⟨congrArg (fun b => Ending.returned (.bool b)) (decide_eq_decide.2 ⟨fun h => by subst_vars; simp_all, fun h => by injection h⟩), hF⟩ | exact ⟨retT (by subst_vars; simp_all), hF⟩ | exact ⟨retF (fun he => by injection he; first | contradiction | (subst_vars; simp_all)), hF⟩

/-- greenscreen/grammar.item -/
theorem c_gr_item_T {p tot : Int} {A : Option Addr} {n c : Nat} {xs : List Gs.Cell} {w : World} (rd1 : Rd w A (rows Gs.cv xs)) (hn : n = xs.length) (hbd : n ≤ 100000) :
    Calls Tryz.prog 40 #[.agg #[.int .i64 p, .slice A n c], .bool true, .int .i64 tot] w fun e w' => ∃ v, e = .returned v ∧ ∃ u, v = .tuple #[u, .int .i64 (Gs.errV (Gs.itemW (p, xs) true tot))] ∧ Own w.heap.size w' 5 1 u (vals .u8 (Gs.okL (Gs.itemW (p, xs) true tot))) ∧ Upd no w w' := by
  refine F40.calls ?_
  unfold F40
  have lt_rd1 := rd1.lt
  have hF : Upd no w w := Fr.refl _ _ _
  refine box_intro (cs := #[.int .i64 p, .slice A n c]) (by rfl) (fun b1 w1 e1 h_b1 _ U1 => ?_)
  have na_rd1_b1 := rd1.apart e1
  have ge_b1 : w.heap.size ≤ b1 := by have := hF.size; omega
  replace rd1 := rd1.upd0 U1
  replace hF := hF.go0 U1
  clear e1
  refine join_cut (fun g w' => ∃ (v8 : Value) (pre : List Int), (g 8 = v8) ∧ (Gs.itemW (p, xs) true tot = Gs.pfxW pre (Gs.cellsW xs)) ∧ (pre.length ≤ 3) ∧ (Own w.heap.size w' 5 1 v8 (vals .u8 pre)) ∧ (w'.heap[b1]? = some (.cells #[.int .i64 p, .slice A n c] 71 (0, 0))) ∧ (Rd w' A (rows Gs.cv xs)) ∧ (Upd no w w')) (fun J1 hJ1 => ?_) (fun gJ1 wJ1 hI => ?_)
  · refine opv_run (fieldAt_eq (off := 0) (by kernel_rfl)) ?_
    refine opv_run (ldC (by kernel_rfl) h_b1 (by rfl)) ?_
    refine opv_dec (neI _ _ _ _ _) (fun h2 => ?_) (fun h2 => ?_)
    · refine gdtf ?_
      refine gdtf ?_
      refine pickt ?_
      refine condt ?_
      refine opv_run (fieldAt_eq (off := 0) (by kernel_rfl)) ?_
      refine opv_run (ldC (by kernel_rfl) h_b1 (by rfl)) ?_
      refine callF_val (c_addr_Encode) (fun w3 U3 => ?_)
      replace rd1 := rd1.upd0 U3
      replace h_b1 := U3.get0 h_b1
      replace hF := hF.go0 U3
      refine opv_run (ext_t (by rfl)) ?_
      refine opv_run (ext_t (by rfl)) ?_
      refine alloc_intro (cs := #[.int .u8 0, .int .u8 0]) (by kernel_rfl) (fun b4 w4 e4 h_b4 _ U4 => ?_)
      have na_rd1_b4 := rd1.apart e4
      have ne_b1_b4 : b1 ≠ b4 := by have := lt_get h_b1; omega
      have ge_b4 : w.heap.size ≤ b4 := by have := hF.size; omega
      replace rd1 := rd1.upd0 U4
      replace h_b1 := U4.get0 h_b1
      replace hF := hF.go0 U4
      clear e4
      refine store_intro (n := 2) (by kernel_rfl) (by rfl) (by first | rfl | (simp [Value.cells, Value.oneCell', Gs.cv, Gs.ie]; done)) h_b4 (by first | exact Nat.le_of_ble_eq_true rfl | (simp; done) | omega) (by first | (simp; rfl) | rfl) (fun w5 N5 _ U5 => ?_)
      replace rd1 := rd1.upd1 U5 na_rd1_b4
      replace h_b1 := U5.get1 h_b1 ne_b1_b4
      replace h_b4 := N5
      replace hF := hF.go1 U5 ge_b4
      refine opv_dec (neI _ _ _ _ _) (fun h6 => ?_) (fun h6 => ?_)
      · refine condt ?_
        first | exact ⟨_, rfl, _, by rw [hpre, hfin]; rfl, by rw [hpre, hfin]; exact own8, hF⟩ | exact ⟨_, rfl, _, by rw [hpre, Gs.cellsW_21 hacc hx? (by simp_all)]; rfl, by rw [hpre, Gs.cellsW_21 hacc hx? (by simp_all)]; exact Own.nil _ _ _ _, hF⟩ | exact ⟨_, rfl, _, by rw [Gs.itemW_32 (by first | exact .inl (by assumption) | exact .inr rfl) (Gs.encP_none (by assumption))]; rfl, by rw [Gs.itemW_32 (by first | exact .inl (by assumption) | exact .inr rfl) (Gs.encP_none (by assumption))]; exact Own.nil _ _ _ _, hF⟩
      · refine condf ?_
        refine opv_run (index_arrp (n := 2) (m := 1) (by kernel_rfl) (by omega) (by omega)) ?_
        refine opv_run (ldC (by kernel_rfl) h_b4 (by rfl)) ?_
        refine opv_run (index_arrp (n := 2) (m := 1) (by kernel_rfl) (by omega) (by omega)) ?_
        refine opv_run (ldC (by kernel_rfl) h_b4 (by rfl)) ?_
        refine buildSlice_intro (e := 5) (m := 1) (z := #[.int .u8 0]) (by kernel_rfl) (by kernel_rfl) (by rfl) (by decide) (by first | (simp [fillL, splice, repL, Value.cells, Gs.cv, Gs.ie]; done) | (simp [fillL, splice, repL, Value.cells, Gs.cv, Gs.ie]; rfl)) (fun b8 w8 e8 h_b8 _ U8 => ?_)
        have na_rd1_b8 := rd1.apart e8
        have ne_b1_b8 : b1 ≠ b8 := by have := lt_get h_b1; omega
        have ne_b4_b8 : b4 ≠ b8 := by have := lt_get h_b4; omega
        have ge_b8 : w.heap.size ≤ b8 := by have := hF.size; omega
        replace rd1 := rd1.upd0 U8
        replace h_b1 := U8.get0 h_b1
        replace h_b4 := U8.get0 h_b4
        replace hF := hF.go0 U8
        clear e8
        refine app_intro (e := 5) (size := 1) (bytes := 1) (by kernel_rfl) (Own.nil w.heap.size _ _ _) (Rd.of_blockL h_b8) rfl (by simp [Value.oneCell']) (by simp) (by have := hF.size; omega) (fun v9 w9 N9 V9 => ?_)
        have U9 : Upd no _ w9 := (Fr.refl _ _ _).go V9 (fun _ _ h => by cases h)
        replace rd1 := rd1.upd0 U9
        replace h_b1 := U9.get0 h_b1
        replace h_b4 := U9.get0 h_b4
        replace h_b8 := U9.get0 h_b8
        replace hF := hF.go0 U9
        have own8 := N9
        simp only [List.nil_append] at own8
        refine hJ1 _ _ ?_
        exact ⟨_, _, rfl, (by first | exact Gs.itemW_p (by first | exact .inl (by assumption) | exact .inr rfl) (Gs.encP_some (Classical.not_not.1 (by assumption))) | exact Gs.itemW_n (Classical.not_not.1 (by assumption)) rfl), (by simp), (by first | exact own8 | exact Own.nil _ _ _ _), h_b1, rd1, hF⟩
    · refine gdff ?_
      refine gdff ?_
      refine opv_run (notT) ?_
      refine pickf ?_
      refine condf ?_
      refine hJ1 _ _ ?_
      exact ⟨_, _, rfl, (by first | exact Gs.itemW_p (by first | exact .inl (by assumption) | exact .inr rfl) (Gs.encP_some (Classical.not_not.1 (by assumption))) | exact Gs.itemW_n (Classical.not_not.1 (by assumption)) rfl), (by simp), (by first | exact own8 | exact Own.nil _ _ _ _), h_b1, rd1, hF⟩
  · obtain ⟨v8, pre, g8, hpre, hpl, own8, h_b1, rd1, hF⟩ := hI
    try rw [g8]
    refine join_cut (fun g w' => ∃ (v8 : Value) (acc : List Int), (g 8 = v8) ∧ (Gs.cellsW xs = .ok acc) ∧ (Own w.heap.size w' 5 1 v8 (vals .u8 (pre ++ acc))) ∧ (Upd no w w')) (fun J2 hJ2 => ?_) (fun gJ2 wJ2 hI => ?_)
    · refine opv_run (fieldAt_eq (off := 1) (by kernel_rfl)) ?_
      refine opv_run (ldC (by kernel_rfl) h_b1 (by rfl)) ?_
      refine opv_run (len_sl (by kernel_rfl) _ _ _) ?_
      refine loop_intro (fun g w' => ∃ (k : Nat) (v8 : Value) (acc : List Int), (g 39 = .int .i64 (k : Int)) ∧ (k ≤ xs.length) ∧ (g 8 = v8) ∧ (Gs.cellsW (xs.take k) = .ok acc) ∧ (acc.length ≤ 2 * k) ∧ (Own w.heap.size w' 5 1 v8 (vals .u8 (pre ++ acc))) ∧ (Rd w' A (rows Gs.cv xs)) ∧ (Upd no w w')) (fun g w' => xs.length - (RowKit.intOf (g 39)).toNat) ?_ (fun g3 wl3 hI => ?_)
      · exact ⟨0, _, [], (by first | exact g39 | rfl), Nat.zero_le _, (by first | exact g8 | rfl), rfl, (by simp), (by rw [List.append_nil]; exact own8), rd1, hF⟩
      · obtain ⟨k, v8, acc, g39, hk, g8, hacc, hal, own8, rd1, hF⟩ := hI
        try rw [g39]
        try rw [g8]
        refine opv_dec (lss _ _ _ _) (fun h10 => ?_) (fun h10 => ?_)
        · refine condt ?_
          refine idx_rows Gs.encC (by kernel_rfl) (by kernel_rfl) rd1 (by first | rfl | assumption | omega) (by omega) (by omega) (fun x11 hx11 => ?_)
          try simp only [Int.toNat_natCast] at hx11
          refine alloc_intro (cs := (Gs.cv Gs.zc).toArray) (by kernel_rfl) (fun b12 w12 e12 h_b12 _ U12 => ?_)
          have na_own8_b12 := own8.apart e12
          have na_rd1_b12 := rd1.apart e12
          have ge_b12 : w.heap.size ≤ b12 := by have := hF.size; omega
          replace own8 := own8.upd0 U12
          replace rd1 := rd1.upd0 U12
          replace hF := hF.go0 U12
          clear e12
          refine store_intro (n := 5) (cs' := (Gs.cv x11).toArray) (by kernel_rfl) (by rfl) (by first | rfl | (simp [Value.cells, Value.oneCell', Gs.cv, Gs.ie]; done)) h_b12 (by first | exact Nat.le_of_ble_eq_true rfl | (simp; done) | omega) (by rfl) (fun w13 N13 _ U13 => ?_)
          replace own8 := own8.upd1 U13 na_own8_b12
          replace rd1 := rd1.upd1 U13 na_rd1_b12
          replace h_b12 := N13
          replace hF := hF.go1 U13 ge_b12
          refine opv_run (ldA (n := 5) (cs' := (Gs.cv x11).toArray) (by kernel_rfl) h_b12 (by first | exact Nat.le_of_ble_eq_true rfl | (simp; done) | omega) (by rfl)) ?_
          refine callF_bool (c_grammar_may) (fun w14 U14 h14 => ?_) (fun w14 U14 h14 => ?_)
          · replace own8 := own8.upd0 U14
            replace rd1 := rd1.upd0 U14
            replace h_b12 := U14.get0 h_b12
            replace hF := hF.go0 U14
            try simp only [decide_eq_true_eq, decide_eq_false_iff_not] at h14
            refine opv_run (notT) ?_
            refine condf ?_
            refine join_cut (fun g w' => ∃ (v8 : Value), (g 8 = v8) ∧ (Own w.heap.size w' 5 1 v8 (vals .u8 (pre ++ acc ++ (if (x11).ge = true then [8] else [])))) ∧ (Rd w' A (rows Gs.cv xs)) ∧ (w'.heap[b12]? = some (.cells (Gs.cv x11).toArray 35 (0, 0))) ∧ (Upd no w w')) (fun J4 hJ4 => ?_) (fun gJ4 wJ4 hI => ?_)
            · refine opv_run (fieldAt_eq (off := 1) (by kernel_rfl)) ?_
              refine opv_b (ldC (by kernel_rfl) h_b12 (by rfl)) (fun h15 => ?_) (fun h15 => ?_)
              · refine condt ?_
                refine buildSlice_intro (e := 5) (m := 1) (z := #[.int .u8 0]) (by kernel_rfl) (by kernel_rfl) (by rfl) (by decide) (by first | (simp [fillL, splice, repL, Value.cells, Gs.cv, Gs.ie]; done) | (simp [fillL, splice, repL, Value.cells, Gs.cv, Gs.ie]; rfl)) (fun b16 w16 e16 h_b16 _ U16 => ?_)
                have na_own8_b16 := own8.apart e16
                have na_rd1_b16 := rd1.apart e16
                have ne_b12_b16 : b12 ≠ b16 := by have := lt_get h_b12; omega
                have ge_b16 : w.heap.size ≤ b16 := by have := hF.size; omega
                replace own8 := own8.upd0 U16
                replace rd1 := rd1.upd0 U16
                replace h_b12 := U16.get0 h_b12
                replace hF := hF.go0 U16
                clear e16
                refine app_intro (e := 5) (size := 1) (bytes := 1) (by kernel_rfl) own8 (Rd.of_blockL h_b16) rfl (by first | (simp [Value.oneCell']; done) | (intro u hu; simp only [List.mem_singleton] at hu; subst hu; rfl) | (simp; intros; subst_vars; rfl)) (by simp only [vals_length, List.length_take, List.length_cons, List.length_nil, List.length_append, List.length_map, List.length_range]; omega) (by have := hF.size; omega) (fun v17 w17 N17 U17 => ?_)
                have own8_o := own8
                replace own8 := N17
                replace rd1 := rd1.updS U17 (lt_rd1.imp_right fun h k hk hs => by have := h k hk; have := (Own.ge own8_o hs).1; omega)
                replace h_b12 := U17.get h_b12 (fun h => na_own8_b12 _ h rfl)
                replace h_b16 := U17.get h_b16 (fun h => na_own8_b16 _ h rfl)
                replace hF := hF.go U17 (fun i h hs => by first | exact hs | exact .inl hs | exact .inr hs | (have := (Own.ge own8_o hs).1; omega))
                clear own8_o
                refine hJ4 _ _ ?_
                exact ⟨_, (by first | exact g8 | rfl), (by first | (rw [if_pos (by assumption)]; exact own_snoc own8) | (rw [if_neg (by simp [*]), List.append_nil]; exact own8)), rd1, h_b12, hF⟩
              · refine condf ?_
                refine hJ4 _ _ ?_
                exact ⟨_, (by first | exact g8 | rfl), (by first | (rw [if_pos (by assumption)]; exact own_snoc own8) | (rw [if_neg (by simp [*]), List.append_nil]; exact own8)), rd1, h_b12, hF⟩
            · obtain ⟨v8, g8, own8, rd1, h_b12, hF⟩ := hI
              try rw [g8]
              have hil : (if (x11).ge = true then [8] else ([] : List Int)).length ≤ 1 := by split <;> simp
              refine opv_run (fieldAt_eq (off := 0) (by kernel_rfl)) ?_
              refine opv_run (ldC (by kernel_rfl) h_b12 (by rfl)) ?_
              refine buildSlice_intro (e := 5) (m := 1) (z := #[.int .u8 0]) (by kernel_rfl) (by kernel_rfl) (by rfl) (by decide) (by first | (simp [fillL, splice, repL, Value.cells, Gs.cv, Gs.ie]; done) | (simp [fillL, splice, repL, Value.cells, Gs.cv, Gs.ie]; rfl)) (fun b18 w18 e18 h_b18 _ U18 => ?_)
              have na_own8_b18 := own8.apart e18
              have na_rd1_b18 := rd1.apart e18
              have ne_b12_b18 : b12 ≠ b18 := by have := lt_get h_b12; omega
              have ge_b18 : w.heap.size ≤ b18 := by have := hF.size; omega
              replace own8 := own8.upd0 U18
              replace rd1 := rd1.upd0 U18
              replace h_b12 := U18.get0 h_b12
              replace hF := hF.go0 U18
              clear e18
              refine app_intro (e := 5) (size := 1) (bytes := 1) (by kernel_rfl) own8 (Rd.of_blockL h_b18) rfl (by first | (simp [Value.oneCell']; done) | (intro u hu; simp only [List.mem_singleton] at hu; subst hu; rfl) | (simp; intros; subst_vars; rfl)) (by simp only [vals_length, List.length_take, List.length_cons, List.length_nil, List.length_append, List.length_map, List.length_range]; omega) (by have := hF.size; omega) (fun v19 w19 N19 U19 => ?_)
              have own8_o := own8
              replace own8 := N19
              replace rd1 := rd1.updS U19 (lt_rd1.imp_right fun h k hk hs => by have := h k hk; have := (Own.ge own8_o hs).1; omega)
              replace h_b12 := U19.get h_b12 (fun h => by first | (have := Own.ge own8_o h; omega) | exact Own.ne_blk own8_o h_b12 (by decide) _ h rfl | exact Own.not_loop own8_o h_b12 (by assumption) _ h rfl | exact Own.not_def own8_o h_b12 _ h rfl | simp_all)
              replace h_b18 := U19.get h_b18 (fun h => na_own8_b18 _ h rfl)
              replace hF := hF.go U19 (fun i h hs => by first | exact hs | exact .inl hs | exact .inr hs | (have := (Own.ge own8_o hs).1; omega))
              clear own8_o
              first | refine opv_run (add_i64 _ (by omega)) ?_ | refine opv_run (addI _ _ _ _) ?_
              exact ⟨⟨k + 1, _, acc ++ Gs.cellW x11, (by first | exact g39 | rfl), by omega, (by first | exact g8 | rfl), (Gs.cellsW_step hacc hx11 (by assumption)), (by have := Gs.cellW_len x11; simp only [List.length_append]; omega), (Gs.own_cellW own8), rd1, hF⟩, cnt_lt (by first | rfl | exact g39) rfl (by omega)⟩
          · replace own8 := own8.upd0 U14
            replace rd1 := rd1.upd0 U14
            replace h_b12 := U14.get0 h_b12
            replace hF := hF.go0 U14
            try simp only [decide_eq_true_eq, decide_eq_false_iff_not] at h14
            refine opv_run (notF) ?_
            refine condt ?_
            first | exact ⟨_, rfl, _, by rw [hpre, hfin]; rfl, by rw [hpre, hfin]; exact own8, hF⟩ | exact ⟨_, rfl, _, by rw [hpre, Gs.cellsW_21 hacc hx11 (by simp_all)]; rfl, by rw [hpre, Gs.cellsW_21 hacc hx11 (by simp_all)]; exact Own.nil _ _ _ _, hF⟩ | exact ⟨_, rfl, _, by rw [Gs.itemW_32 (by first | exact .inl (by assumption) | exact .inr rfl) (Gs.encP_none (by assumption))]; rfl, by rw [Gs.itemW_32 (by first | exact .inl (by assumption) | exact .inr rfl) (Gs.encP_none (by assumption))]; exact Own.nil _ _ _ _, hF⟩
        · refine condf ?_
          refine hJ2 _ _ ?_
          exact ⟨_, _, (by first | exact g8 | rfl), (Gs.cellsW_end hacc (by omega)), own8, hF⟩
    · obtain ⟨v8, acc, g8, hfin, own8, hF⟩ := hI
      try rw [g8]
      first | exact ⟨_, rfl, _, by rw [hpre, hfin]; rfl, by rw [hpre, hfin]; exact own8, hF⟩ | exact ⟨_, rfl, _, by rw [hpre, Gs.cellsW_21 hacc hx11 (by simp_all)]; rfl, by rw [hpre, Gs.cellsW_21 hacc hx11 (by simp_all)]; exact Own.nil _ _ _ _, hF⟩ | exact ⟨_, rfl, _, by rw [Gs.itemW_32 (by first | exact .inl (by assumption) | exact .inr rfl) (Gs.encP_none (by assumption))]; rfl, by rw [Gs.itemW_32 (by first | exact .inl (by assumption) | exact .inr rfl) (Gs.encP_none (by assumption))]; exact Own.nil _ _ _ _, hF⟩

/-- greenscreen/grammar.item -/
theorem c_gr_item_F {p tot : Int} {A : Option Addr} {n c : Nat} {xs : List Gs.Cell} {w : World} (rd1 : Rd w A (rows Gs.cv xs)) (hn : n = xs.length) (hbd : n ≤ 100000) :
    Calls Tryz.prog 40 #[.agg #[.int .i64 p, .slice A n c], .bool false, .int .i64 tot] w fun e w' => ∃ v, e = .returned v ∧ ∃ u, v = .tuple #[u, .int .i64 (Gs.errV (Gs.itemW (p, xs) false tot))] ∧ Own w.heap.size w' 5 1 u (vals .u8 (Gs.okL (Gs.itemW (p, xs) false tot))) ∧ Upd no w w' := by
  refine F40.calls ?_
  unfold F40
  have lt_rd1 := rd1.lt
  have hF : Upd no w w := Fr.refl _ _ _
  refine box_intro (cs := #[.int .i64 p, .slice A n c]) (by rfl) (fun b1 w1 e1 h_b1 _ U1 => ?_)
  have na_rd1_b1 := rd1.apart e1
  have ge_b1 : w.heap.size ≤ b1 := by have := hF.size; omega
  replace rd1 := rd1.upd0 U1
  replace hF := hF.go0 U1
  clear e1
  refine join_cut (fun g w' => ∃ (v8 : Value) (pre : List Int), (g 8 = v8) ∧ (Gs.itemW (p, xs) false tot = Gs.pfxW pre (Gs.cellsW xs)) ∧ (pre.length ≤ 3) ∧ (Own w.heap.size w' 5 1 v8 (vals .u8 pre)) ∧ (w'.heap[b1]? = some (.cells #[.int .i64 p, .slice A n c] 71 (0, 0))) ∧ (Rd w' A (rows Gs.cv xs)) ∧ (Upd no w w')) (fun J1 hJ1 => ?_) (fun gJ1 wJ1 hI => ?_)
  · refine opv_run (fieldAt_eq (off := 0) (by kernel_rfl)) ?_
    refine opv_run (ldC (by kernel_rfl) h_b1 (by rfl)) ?_
    refine opv_dec (neI _ _ _ _ _) (fun h2 => ?_) (fun h2 => ?_)
    · refine gdtf ?_
      refine gdtf ?_
      refine pickt ?_
      refine condt ?_
      refine opv_run (fieldAt_eq (off := 0) (by kernel_rfl)) ?_
      refine opv_run (ldC (by kernel_rfl) h_b1 (by rfl)) ?_
      refine callF_val (c_addr_Encode) (fun w3 U3 => ?_)
      replace rd1 := rd1.upd0 U3
      replace h_b1 := U3.get0 h_b1
      replace hF := hF.go0 U3
      refine opv_run (ext_t (by rfl)) ?_
      refine opv_run (ext_t (by rfl)) ?_
      refine alloc_intro (cs := #[.int .u8 0, .int .u8 0]) (by kernel_rfl) (fun b4 w4 e4 h_b4 _ U4 => ?_)
      have na_rd1_b4 := rd1.apart e4
      have ne_b1_b4 : b1 ≠ b4 := by have := lt_get h_b1; omega
      have ge_b4 : w.heap.size ≤ b4 := by have := hF.size; omega
      replace rd1 := rd1.upd0 U4
      replace h_b1 := U4.get0 h_b1
      replace hF := hF.go0 U4
      clear e4
      refine store_intro (n := 2) (by kernel_rfl) (by rfl) (by first | rfl | (simp [Value.cells, Value.oneCell', Gs.cv, Gs.ie]; done)) h_b4 (by first | exact Nat.le_of_ble_eq_true rfl | (simp; done) | omega) (by first | (simp; rfl) | rfl) (fun w5 N5 _ U5 => ?_)
      replace rd1 := rd1.upd1 U5 na_rd1_b4
      replace h_b1 := U5.get1 h_b1 ne_b1_b4
      replace h_b4 := N5
      replace hF := hF.go1 U5 ge_b4
      refine opv_dec (neI _ _ _ _ _) (fun h6 => ?_) (fun h6 => ?_)
      · refine condt ?_
        first | exact ⟨_, rfl, _, by rw [hpre, hfin]; rfl, by rw [hpre, hfin]; exact own8, hF⟩ | exact ⟨_, rfl, _, by rw [hpre, Gs.cellsW_21 hacc hx? (by simp_all)]; rfl, by rw [hpre, Gs.cellsW_21 hacc hx? (by simp_all)]; exact Own.nil _ _ _ _, hF⟩ | exact ⟨_, rfl, _, by rw [Gs.itemW_32 (by first | exact .inl (by assumption) | exact .inr rfl) (Gs.encP_none (by assumption))]; rfl, by rw [Gs.itemW_32 (by first | exact .inl (by assumption) | exact .inr rfl) (Gs.encP_none (by assumption))]; exact Own.nil _ _ _ _, hF⟩
      · refine condf ?_
        refine opv_run (index_arrp (n := 2) (m := 1) (by kernel_rfl) (by omega) (by omega)) ?_
        refine opv_run (ldC (by kernel_rfl) h_b4 (by rfl)) ?_
        refine opv_run (index_arrp (n := 2) (m := 1) (by kernel_rfl) (by omega) (by omega)) ?_
        refine opv_run (ldC (by kernel_rfl) h_b4 (by rfl)) ?_
        refine buildSlice_intro (e := 5) (m := 1) (z := #[.int .u8 0]) (by kernel_rfl) (by kernel_rfl) (by rfl) (by decide) (by first | (simp [fillL, splice, repL, Value.cells, Gs.cv, Gs.ie]; done) | (simp [fillL, splice, repL, Value.cells, Gs.cv, Gs.ie]; rfl)) (fun b8 w8 e8 h_b8 _ U8 => ?_)
        have na_rd1_b8 := rd1.apart e8
        have ne_b1_b8 : b1 ≠ b8 := by have := lt_get h_b1; omega
        have ne_b4_b8 : b4 ≠ b8 := by have := lt_get h_b4; omega
        have ge_b8 : w.heap.size ≤ b8 := by have := hF.size; omega
        replace rd1 := rd1.upd0 U8
        replace h_b1 := U8.get0 h_b1
        replace h_b4 := U8.get0 h_b4
        replace hF := hF.go0 U8
        clear e8
        refine app_intro (e := 5) (size := 1) (bytes := 1) (by kernel_rfl) (Own.nil w.heap.size _ _ _) (Rd.of_blockL h_b8) rfl (by simp [Value.oneCell']) (by simp) (by have := hF.size; omega) (fun v9 w9 N9 V9 => ?_)
        have U9 : Upd no _ w9 := (Fr.refl _ _ _).go V9 (fun _ _ h => by cases h)
        replace rd1 := rd1.upd0 U9
        replace h_b1 := U9.get0 h_b1
        replace h_b4 := U9.get0 h_b4
        replace h_b8 := U9.get0 h_b8
        replace hF := hF.go0 U9
        have own8 := N9
        simp only [List.nil_append] at own8
        refine hJ1 _ _ ?_
        exact ⟨_, _, rfl, (by first | exact Gs.itemW_p (by first | exact .inl (by assumption) | exact .inr rfl) (Gs.encP_some (Classical.not_not.1 (by assumption))) | exact Gs.itemW_n (Classical.not_not.1 (by assumption)) rfl), (by simp), (by first | exact own8 | exact Own.nil _ _ _ _), h_b1, rd1, hF⟩
    · refine gdff ?_
      refine gdff ?_
      refine opv_run (notF) ?_
      refine pickf ?_
      refine condt ?_
      refine opv_run (fieldAt_eq (off := 0) (by kernel_rfl)) ?_
      refine opv_run (ldC (by kernel_rfl) h_b1 (by rfl)) ?_
      refine callF_val (c_addr_Encode) (fun w10 U10 => ?_)
      replace rd1 := rd1.upd0 U10
      replace h_b1 := U10.get0 h_b1
      replace hF := hF.go0 U10
      refine opv_run (ext_t (by rfl)) ?_
      refine opv_run (ext_t (by rfl)) ?_
      refine alloc_intro (cs := #[.int .u8 0, .int .u8 0]) (by kernel_rfl) (fun b11 w11 e11 h_b11 _ U11 => ?_)
      have na_rd1_b11 := rd1.apart e11
      have ne_b1_b11 : b1 ≠ b11 := by have := lt_get h_b1; omega
      have ge_b11 : w.heap.size ≤ b11 := by have := hF.size; omega
      replace rd1 := rd1.upd0 U11
      replace h_b1 := U11.get0 h_b1
      replace hF := hF.go0 U11
      clear e11
      refine store_intro (n := 2) (by kernel_rfl) (by rfl) (by first | rfl | (simp [Value.cells, Value.oneCell', Gs.cv, Gs.ie]; done)) h_b11 (by first | exact Nat.le_of_ble_eq_true rfl | (simp; done) | omega) (by first | (simp; rfl) | rfl) (fun w12 N12 _ U12 => ?_)
      replace rd1 := rd1.upd1 U12 na_rd1_b11
      replace h_b1 := U12.get1 h_b1 ne_b1_b11
      replace h_b11 := N12
      replace hF := hF.go1 U12 ge_b11
      refine opv_dec (neI _ _ _ _ _) (fun h13 => ?_) (fun h13 => ?_)
      · refine condt ?_
        first | exact ⟨_, rfl, _, by rw [hpre, hfin]; rfl, by rw [hpre, hfin]; exact own8, hF⟩ | exact ⟨_, rfl, _, by rw [hpre, Gs.cellsW_21 hacc hx? (by simp_all)]; rfl, by rw [hpre, Gs.cellsW_21 hacc hx? (by simp_all)]; exact Own.nil _ _ _ _, hF⟩ | exact ⟨_, rfl, _, by rw [Gs.itemW_32 (by first | exact .inl (by assumption) | exact .inr rfl) (Gs.encP_none (by assumption))]; rfl, by rw [Gs.itemW_32 (by first | exact .inl (by assumption) | exact .inr rfl) (Gs.encP_none (by assumption))]; exact Own.nil _ _ _ _, hF⟩
      · refine condf ?_
        refine opv_run (index_arrp (n := 2) (m := 1) (by kernel_rfl) (by omega) (by omega)) ?_
        refine opv_run (ldC (by kernel_rfl) h_b11 (by rfl)) ?_
        refine opv_run (index_arrp (n := 2) (m := 1) (by kernel_rfl) (by omega) (by omega)) ?_
        refine opv_run (ldC (by kernel_rfl) h_b11 (by rfl)) ?_
        refine buildSlice_intro (e := 5) (m := 1) (z := #[.int .u8 0]) (by kernel_rfl) (by kernel_rfl) (by rfl) (by decide) (by first | (simp [fillL, splice, repL, Value.cells, Gs.cv, Gs.ie]; done) | (simp [fillL, splice, repL, Value.cells, Gs.cv, Gs.ie]; rfl)) (fun b15 w15 e15 h_b15 _ U15 => ?_)
        have na_rd1_b15 := rd1.apart e15
        have ne_b1_b15 : b1 ≠ b15 := by have := lt_get h_b1; omega
        have ne_b11_b15 : b11 ≠ b15 := by have := lt_get h_b11; omega
        have ge_b15 : w.heap.size ≤ b15 := by have := hF.size; omega
        replace rd1 := rd1.upd0 U15
        replace h_b1 := U15.get0 h_b1
        replace h_b11 := U15.get0 h_b11
        replace hF := hF.go0 U15
        clear e15
        refine app_intro (e := 5) (size := 1) (bytes := 1) (by kernel_rfl) (Own.nil w.heap.size _ _ _) (Rd.of_blockL h_b15) rfl (by simp [Value.oneCell']) (by simp) (by have := hF.size; omega) (fun v16 w16 N16 V16 => ?_)
        have U16 : Upd no _ w16 := (Fr.refl _ _ _).go V16 (fun _ _ h => by cases h)
        replace rd1 := rd1.upd0 U16
        replace h_b1 := U16.get0 h_b1
        replace h_b11 := U16.get0 h_b11
        replace h_b15 := U16.get0 h_b15
        replace hF := hF.go0 U16
        have own8 := N16
        simp only [List.nil_append] at own8
        refine hJ1 _ _ ?_
        exact ⟨_, _, rfl, (by first | exact Gs.itemW_p (by first | exact .inl (by assumption) | exact .inr rfl) (Gs.encP_some (Classical.not_not.1 (by assumption))) | exact Gs.itemW_n (Classical.not_not.1 (by assumption)) rfl), (by simp), (by first | exact own8 | exact Own.nil _ _ _ _), h_b1, rd1, hF⟩
  · obtain ⟨v8, pre, g8, hpre, hpl, own8, h_b1, rd1, hF⟩ := hI
    try rw [g8]
    refine join_cut (fun g w' => ∃ (v8 : Value) (acc : List Int), (g 8 = v8) ∧ (Gs.cellsW xs = .ok acc) ∧ (Own w.heap.size w' 5 1 v8 (vals .u8 (pre ++ acc))) ∧ (Upd no w w')) (fun J2 hJ2 => ?_) (fun gJ2 wJ2 hI => ?_)
    · refine opv_run (fieldAt_eq (off := 1) (by kernel_rfl)) ?_
      refine opv_run (ldC (by kernel_rfl) h_b1 (by rfl)) ?_
      refine opv_run (len_sl (by kernel_rfl) _ _ _) ?_
      refine loop_intro (fun g w' => ∃ (k : Nat) (v8 : Value) (acc : List Int), (g 39 = .int .i64 (k : Int)) ∧ (k ≤ xs.length) ∧ (g 8 = v8) ∧ (Gs.cellsW (xs.take k) = .ok acc) ∧ (acc.length ≤ 2 * k) ∧ (Own w.heap.size w' 5 1 v8 (vals .u8 (pre ++ acc))) ∧ (Rd w' A (rows Gs.cv xs)) ∧ (Upd no w w')) (fun g w' => xs.length - (RowKit.intOf (g 39)).toNat) ?_ (fun g3 wl3 hI => ?_)
      · exact ⟨0, _, [], (by first | exact g39 | rfl), Nat.zero_le _, (by first | exact g8 | rfl), rfl, (by simp), (by rw [List.append_nil]; exact own8), rd1, hF⟩
      · obtain ⟨k, v8, acc, g39, hk, g8, hacc, hal, own8, rd1, hF⟩ := hI
        try rw [g39]
        try rw [g8]
        refine opv_dec (lss _ _ _ _) (fun h17 => ?_) (fun h17 => ?_)
        · refine condt ?_
          refine idx_rows Gs.encC (by kernel_rfl) (by kernel_rfl) rd1 (by first | rfl | assumption | omega) (by omega) (by omega) (fun x18 hx18 => ?_)
          try simp only [Int.toNat_natCast] at hx18
          refine alloc_intro (cs := (Gs.cv Gs.zc).toArray) (by kernel_rfl) (fun b19 w19 e19 h_b19 _ U19 => ?_)
          have na_own8_b19 := own8.apart e19
          have na_rd1_b19 := rd1.apart e19
          have ge_b19 : w.heap.size ≤ b19 := by have := hF.size; omega
          replace own8 := own8.upd0 U19
          replace rd1 := rd1.upd0 U19
          replace hF := hF.go0 U19
          clear e19
          refine store_intro (n := 5) (cs' := (Gs.cv x18).toArray) (by kernel_rfl) (by rfl) (by first | rfl | (simp [Value.cells, Value.oneCell', Gs.cv, Gs.ie]; done)) h_b19 (by first | exact Nat.le_of_ble_eq_true rfl | (simp; done) | omega) (by rfl) (fun w20 N20 _ U20 => ?_)
          replace own8 := own8.upd1 U20 na_own8_b19
          replace rd1 := rd1.upd1 U20 na_rd1_b19
          replace h_b19 := N20
          replace hF := hF.go1 U20 ge_b19
          refine opv_run (ldA (n := 5) (cs' := (Gs.cv x18).toArray) (by kernel_rfl) h_b19 (by first | exact Nat.le_of_ble_eq_true rfl | (simp; done) | omega) (by rfl)) ?_
          refine callF_bool (c_grammar_may) (fun w21 U21 h21 => ?_) (fun w21 U21 h21 => ?_)
          · replace own8 := own8.upd0 U21
            replace rd1 := rd1.upd0 U21
            replace h_b19 := U21.get0 h_b19
            replace hF := hF.go0 U21
            try simp only [decide_eq_true_eq, decide_eq_false_iff_not] at h21
            refine opv_run (notT) ?_
            refine condf ?_
            refine join_cut (fun g w' => ∃ (v8 : Value), (g 8 = v8) ∧ (Own w.heap.size w' 5 1 v8 (vals .u8 (pre ++ acc ++ (if (x18).ge = true then [8] else [])))) ∧ (Rd w' A (rows Gs.cv xs)) ∧ (w'.heap[b19]? = some (.cells (Gs.cv x18).toArray 35 (0, 0))) ∧ (Upd no w w')) (fun J4 hJ4 => ?_) (fun gJ4 wJ4 hI => ?_)
            · refine opv_run (fieldAt_eq (off := 1) (by kernel_rfl)) ?_
              refine opv_b (ldC (by kernel_rfl) h_b19 (by rfl)) (fun h22 => ?_) (fun h22 => ?_)
              · refine condt ?_
                refine buildSlice_intro (e := 5) (m := 1) (z := #[.int .u8 0]) (by kernel_rfl) (by kernel_rfl) (by rfl) (by decide) (by first | (simp [fillL, splice, repL, Value.cells, Gs.cv, Gs.ie]; done) | (simp [fillL, splice, repL, Value.cells, Gs.cv, Gs.ie]; rfl)) (fun b23 w23 e23 h_b23 _ U23 => ?_)
                have na_own8_b23 := own8.apart e23
                have na_rd1_b23 := rd1.apart e23
                have ne_b19_b23 : b19 ≠ b23 := by have := lt_get h_b19; omega
                have ge_b23 : w.heap.size ≤ b23 := by have := hF.size; omega
                replace own8 := own8.upd0 U23
                replace rd1 := rd1.upd0 U23
                replace h_b19 := U23.get0 h_b19
                replace hF := hF.go0 U23
                clear e23
                refine app_intro (e := 5) (size := 1) (bytes := 1) (by kernel_rfl) own8 (Rd.of_blockL h_b23) rfl (by first | (simp [Value.oneCell']; done) | (intro u hu; simp only [List.mem_singleton] at hu; subst hu; rfl) | (simp; intros; subst_vars; rfl)) (by simp only [vals_length, List.length_take, List.length_cons, List.length_nil, List.length_append, List.length_map, List.length_range]; omega) (by have := hF.size; omega) (fun v24 w24 N24 U24 => ?_)
                have own8_o := own8
                replace own8 := N24
                replace rd1 := rd1.updS U24 (lt_rd1.imp_right fun h k hk hs => by have := h k hk; have := (Own.ge own8_o hs).1; omega)
                replace h_b19 := U24.get h_b19 (fun h => na_own8_b19 _ h rfl)
                replace h_b23 := U24.get h_b23 (fun h => na_own8_b23 _ h rfl)
                replace hF := hF.go U24 (fun i h hs => by first | exact hs | exact .inl hs | exact .inr hs | (have := (Own.ge own8_o hs).1; omega))
                clear own8_o
                refine hJ4 _ _ ?_
                exact ⟨_, (by first | exact g8 | rfl), (by first | (rw [if_pos (by assumption)]; exact own_snoc own8) | (rw [if_neg (by simp [*]), List.append_nil]; exact own8)), rd1, h_b19, hF⟩
              · refine condf ?_
                refine hJ4 _ _ ?_
                exact ⟨_, (by first | exact g8 | rfl), (by first | (rw [if_pos (by assumption)]; exact own_snoc own8) | (rw [if_neg (by simp [*]), List.append_nil]; exact own8)), rd1, h_b19, hF⟩
            · obtain ⟨v8, g8, own8, rd1, h_b19, hF⟩ := hI
              try rw [g8]
              have hil : (if (x18).ge = true then [8] else ([] : List Int)).length ≤ 1 := by split <;> simp
              refine opv_run (fieldAt_eq (off := 0) (by kernel_rfl)) ?_
              refine opv_run (ldC (by kernel_rfl) h_b19 (by rfl)) ?_
              refine buildSlice_intro (e := 5) (m := 1) (z := #[.int .u8 0]) (by kernel_rfl) (by kernel_rfl) (by rfl) (by decide) (by first | (simp [fillL, splice, repL, Value.cells, Gs.cv, Gs.ie]; done) | (simp [fillL, splice, repL, Value.cells, Gs.cv, Gs.ie]; rfl)) (fun b25 w25 e25 h_b25 _ U25 => ?_)
              have na_own8_b25 := own8.apart e25
              have na_rd1_b25 := rd1.apart e25
              have ne_b19_b25 : b19 ≠ b25 := by have := lt_get h_b19; omega
              have ge_b25 : w.heap.size ≤ b25 := by have := hF.size; omega
              replace own8 := own8.upd0 U25
              replace rd1 := rd1.upd0 U25
              replace h_b19 := U25.get0 h_b19
              replace hF := hF.go0 U25
              clear e25
              refine app_intro (e := 5) (size := 1) (bytes := 1) (by kernel_rfl) own8 (Rd.of_blockL h_b25) rfl (by first | (simp [Value.oneCell']; done) | (intro u hu; simp only [List.mem_singleton] at hu; subst hu; rfl) | (simp; intros; subst_vars; rfl)) (by simp only [vals_length, List.length_take, List.length_cons, List.length_nil, List.length_append, List.length_map, List.length_range]; omega) (by have := hF.size; omega) (fun v26 w26 N26 U26 => ?_)
              have own8_o := own8
              replace own8 := N26
              replace rd1 := rd1.updS U26 (lt_rd1.imp_right fun h k hk hs => by have := h k hk; have := (Own.ge own8_o hs).1; omega)
              replace h_b19 := U26.get h_b19 (fun h => by first | (have := Own.ge own8_o h; omega) | exact Own.ne_blk own8_o h_b19 (by decide) _ h rfl | exact Own.not_loop own8_o h_b19 (by assumption) _ h rfl | exact Own.not_def own8_o h_b19 _ h rfl | simp_all)
              replace h_b25 := U26.get h_b25 (fun h => na_own8_b25 _ h rfl)
              replace hF := hF.go U26 (fun i h hs => by first | exact hs | exact .inl hs | exact .inr hs | (have := (Own.ge own8_o hs).1; omega))
              clear own8_o
              first | refine opv_run (add_i64 _ (by omega)) ?_ | refine opv_run (addI _ _ _ _) ?_
              exact ⟨⟨k + 1, _, acc ++ Gs.cellW x18, (by first | exact g39 | rfl), by omega, (by first | exact g8 | rfl), (Gs.cellsW_step hacc hx18 (by assumption)), (by have := Gs.cellW_len x18; simp only [List.length_append]; omega), (Gs.own_cellW own8), rd1, hF⟩, cnt_lt (by first | rfl | exact g39) rfl (by omega)⟩
          · replace own8 := own8.upd0 U21
            replace rd1 := rd1.upd0 U21
            replace h_b19 := U21.get0 h_b19
            replace hF := hF.go0 U21
            try simp only [decide_eq_true_eq, decide_eq_false_iff_not] at h21
            refine opv_run (notF) ?_
            refine condt ?_
            first | exact ⟨_, rfl, _, by rw [hpre, hfin]; rfl, by rw [hpre, hfin]; exact own8, hF⟩ | exact ⟨_, rfl, _, by rw [hpre, Gs.cellsW_21 hacc hx18 (by simp_all)]; rfl, by rw [hpre, Gs.cellsW_21 hacc hx18 (by simp_all)]; exact Own.nil _ _ _ _, hF⟩ | exact ⟨_, rfl, _, by rw [Gs.itemW_32 (by first | exact .inl (by assumption) | exact .inr rfl) (Gs.encP_none (by assumption))]; rfl, by rw [Gs.itemW_32 (by first | exact .inl (by assumption) | exact .inr rfl) (Gs.encP_none (by assumption))]; exact Own.nil _ _ _ _, hF⟩
        · refine condf ?_
          refine hJ2 _ _ ?_
          exact ⟨_, _, (by first | exact g8 | rfl), (Gs.cellsW_end hacc (by omega)), own8, hF⟩
    · obtain ⟨v8, acc, g8, hfin, own8, hF⟩ := hI
      try rw [g8]
      first | exact ⟨_, rfl, _, by rw [hpre, hfin]; rfl, by rw [hpre, hfin]; exact own8, hF⟩ | exact ⟨_, rfl, _, by rw [hpre, Gs.cellsW_21 hacc hx18 (by simp_all)]; rfl, by rw [hpre, Gs.cellsW_21 hacc hx18 (by simp_all)]; exact Own.nil _ _ _ _, hF⟩ | exact ⟨_, rfl, _, by rw [Gs.itemW_32 (by first | exact .inl (by assumption) | exact .inr rfl) (Gs.encP_none (by assumption))]; rfl, by rw [Gs.itemW_32 (by first | exact .inl (by assumption) | exact .inr rfl) (Gs.encP_none (by assumption))]; exact Own.nil _ _ _ _, hF⟩

theorem c_gr_item {p tot : Int} {first : Bool} {A : Option Addr} {n c : Nat} {xs : List Gs.Cell} {w : World} (rd1 : Rd w A (rows Gs.cv xs)) (hn : n = xs.length) (hbd : n ≤ 100000) : Calls Tryz.prog 40 #[.agg #[.int .i64 p, .slice A n c], .bool first, .int .i64 tot] w fun e w' => ∃ v, e = .returned v ∧ ∃ u, v = .tuple #[u, .int .i64 (Gs.errV (Gs.itemW (p, xs) first tot))] ∧ Own w.heap.size w' 5 1 u (vals .u8 (Gs.okL (Gs.itemW (p, xs) first tot))) ∧ Upd no w w' := by cases first; exact c_gr_item_F rd1 hn hbd; exact c_gr_item_T rd1 hn hbd
/-- greenscreen/grammar.Write -/
theorem c_gr_Write {aid cur : Int} {al : Bool} {A : Option Addr} {n cp : Nat} {l : List Gs.It} {tot : Int} {w : World} (rd : Rd w A (rows Gs.ie l)) (hn : n = l.length) (rdc : Gs.Cl w l) (hbd : n ≤ 100000) (hcb : ∀ x ∈ l, x.cs.length ≤ 100000) :
    Calls Tryz.prog 16 #[.agg #[.int .u8 aid, .bool al, .int .i64 cur, .slice A n cp], .int .i64 tot] w fun e w' => ∃ v, e = .returned v ∧ ∃ u, v = .tuple #[u, .int .i64 (Gs.errV (Gs.writeM ⟨aid, al, cur, Gs.its l⟩ tot))] ∧ Own w.heap.size w' 5 1 u (vals .u8 (Gs.okL (Gs.writeM ⟨aid, al, cur, Gs.its l⟩ tot))) ∧ Upd no w w' := by
  refine F16.calls ?_
  unfold F16
  have lt_rd := rd.lt
  have lt_rdc := rdc.lt
  have hF : Upd no w w := Fr.refl _ _ _
  refine box_intro (cs := #[.int .u8 aid, .bool al, .int .i64 cur, .slice A n cp]) (by rfl) (fun b1 w1 e1 h_b1 _ U1 => ?_)
  have na_rd_b1 := rd.apart e1
  have na_rdc_b1 := rdc.apart e1
  have ge_b1 : w.heap.size ≤ b1 := by have := hF.size; omega
  replace rd := rd.upd0 U1
  replace rdc := rdc.upd0 U1
  replace hF := hF.go0 U1
  clear e1
  refine opv_run (fieldAt_eq (off := 1) (by kernel_rfl)) ?_
  refine opv_b (ldC (by kernel_rfl) h_b1 (by rfl)) (fun h2 => ?_) (fun h2 => ?_)
  · refine condt ?_
    refine opv_run (fieldAt_eq (off := 0) (by kernel_rfl)) ?_
    refine opv_run (ldC (by kernel_rfl) h_b1 (by rfl)) ?_
    refine buildSlice_intro (e := 5) (m := 1) (z := #[.int .u8 0]) (by kernel_rfl) (by kernel_rfl) (by rfl) (by decide) (by first | (simp [fillL, splice, repL, Value.cells, Gs.cv, Gs.ie]; done) | (simp [fillL, splice, repL, Value.cells, Gs.cv, Gs.ie]; rfl)) (fun b3 w3 e3 h_b3 _ U3 => ?_)
    have na_rd_b3 := rd.apart e3
    have na_rdc_b3 := rdc.apart e3
    have ne_b1_b3 : b1 ≠ b3 := by have := lt_get h_b1; omega
    have ge_b3 : w.heap.size ≤ b3 := by have := hF.size; omega
    replace rd := rd.upd0 U3
    replace rdc := rdc.upd0 U3
    replace h_b1 := U3.get0 h_b1
    replace hF := hF.go0 U3
    clear e3
    first | exact ⟨_, rfl, _, by rw [Gs.write_al (show al = true from by assumption)]; rfl, by rw [Gs.write_al (show al = true from by assumption)]; exact Own.of_block (n := 1) (xs := [_]) (by assumption) (by omega) rfl (by decide), hF⟩ | exact ⟨_, rfl, _, by rw [Gs.write_32 (show al = false from by assumption) (Gs.encP_none (by assumption))]; rfl, by rw [Gs.write_32 (show al = false from by assumption) (Gs.encP_none (by assumption))]; exact Own.nil _ _ _ _, hF⟩ | exact ⟨_, rfl, _, by rw [Gs.write_ok (show al = false from by assumption) henc hfin]; rfl, by rw [Gs.write_ok (show al = false from by assumption) henc hfin]; exact own8, hF⟩ | exact ⟨_, rfl, _, by rw [Gs.write_er (show al = false from by assumption) henc (Gs.items_er hacc hx? (Gs.item_er (by assumption)))]; rfl, by rw [Gs.write_er (show al = false from by assumption) henc (Gs.items_er hacc hx? (Gs.item_er (by assumption)))]; exact Own.nil _ _ _ _, hF⟩
  · refine condf ?_
    refine opv_run (fieldAt_eq (off := 2) (by kernel_rfl)) ?_
    refine opv_run (ldC (by kernel_rfl) h_b1 (by rfl)) ?_
    refine callF_val (c_addr_Encode) (fun w5 U5 => ?_)
    replace rd := rd.upd0 U5
    replace rdc := rdc.upd0 U5
    replace h_b1 := U5.get0 h_b1
    replace hF := hF.go0 U5
    refine opv_run (ext_t (by rfl)) ?_
    refine opv_run (ext_t (by rfl)) ?_
    refine alloc_intro (cs := #[.int .u8 0, .int .u8 0]) (by kernel_rfl) (fun b6 w6 e6 h_b6 _ U6 => ?_)
    have na_rd_b6 := rd.apart e6
    have na_rdc_b6 := rdc.apart e6
    have ne_b1_b6 : b1 ≠ b6 := by have := lt_get h_b1; omega
    have ge_b6 : w.heap.size ≤ b6 := by have := hF.size; omega
    replace rd := rd.upd0 U6
    replace rdc := rdc.upd0 U6
    replace h_b1 := U6.get0 h_b1
    replace hF := hF.go0 U6
    clear e6
    refine store_intro (n := 2) (by kernel_rfl) (by rfl) (by first | rfl | (simp [Value.cells, Value.oneCell', Gs.cv, Gs.ie]; done)) h_b6 (by first | exact Nat.le_of_ble_eq_true rfl | (simp; done) | omega) (by first | (simp; rfl) | rfl) (fun w7 N7 _ U7 => ?_)
    replace rd := rd.upd1 U7 na_rd_b6
    replace rdc := rdc.upd1 U7 na_rdc_b6
    replace h_b1 := U7.get1 h_b1 ne_b1_b6
    replace h_b6 := N7
    replace hF := hF.go1 U7 ge_b6
    refine opv_dec (neI _ _ _ _ _) (fun h8 => ?_) (fun h8 => ?_)
    · refine condt ?_
      first | exact ⟨_, rfl, _, by rw [Gs.write_al (show al = true from by assumption)]; rfl, by rw [Gs.write_al (show al = true from by assumption)]; exact Own.of_block (n := 1) (xs := [_]) (by assumption) (by omega) rfl (by decide), hF⟩ | exact ⟨_, rfl, _, by rw [Gs.write_32 (show al = false from by assumption) (Gs.encP_none (by assumption))]; rfl, by rw [Gs.write_32 (show al = false from by assumption) (Gs.encP_none (by assumption))]; exact Own.nil _ _ _ _, hF⟩ | exact ⟨_, rfl, _, by rw [Gs.write_ok (show al = false from by assumption) henc hfin]; rfl, by rw [Gs.write_ok (show al = false from by assumption) henc hfin]; exact own8, hF⟩ | exact ⟨_, rfl, _, by rw [Gs.write_er (show al = false from by assumption) henc (Gs.items_er hacc hx? (Gs.item_er (by assumption)))]; rfl, by rw [Gs.write_er (show al = false from by assumption) henc (Gs.items_er hacc hx? (Gs.item_er (by assumption)))]; exact Own.nil _ _ _ _, hF⟩
    · refine condf ?_
      refine opv_run (fieldAt_eq (off := 0) (by kernel_rfl)) ?_
      refine opv_run (ldC (by kernel_rfl) h_b1 (by rfl)) ?_
      refine opv_run (index_arrp (n := 2) (m := 1) (by kernel_rfl) (by omega) (by omega)) ?_
      refine opv_run (ldC (by kernel_rfl) h_b6 (by rfl)) ?_
      refine opv_run (index_arrp (n := 2) (m := 1) (by kernel_rfl) (by omega) (by omega)) ?_
      refine opv_run (ldC (by kernel_rfl) h_b6 (by rfl)) ?_
      have henc := Gs.encP_some (p := cur) (n := tot) (Classical.not_not.1 (by assumption))
      refine buildSlice_intro (e := 5) (m := 1) (z := #[.int .u8 0]) (by kernel_rfl) (by kernel_rfl) (by rfl) (by decide) (by first | (simp [fillL, splice, repL, Value.cells, Gs.cv, Gs.ie]; done) | (simp [fillL, splice, repL, Value.cells, Gs.cv, Gs.ie]; rfl)) (fun b10 w10 e10 h_b10 _ U10 => ?_)
      have na_rd_b10 := rd.apart e10
      have na_rdc_b10 := rdc.apart e10
      have ne_b1_b10 : b1 ≠ b10 := by have := lt_get h_b1; omega
      have ne_b6_b10 : b6 ≠ b10 := by have := lt_get h_b6; omega
      have ge_b10 : w.heap.size ≤ b10 := by have := hF.size; omega
      replace rd := rd.upd0 U10
      replace rdc := rdc.upd0 U10
      replace h_b1 := U10.get0 h_b1
      replace h_b6 := U10.get0 h_b6
      replace hF := hF.go0 U10
      clear e10
      refine join_cut (fun g w' => ∃ (v8 : Value) (acc : List Int), (g 8 = v8) ∧ (Gs.itemsW tot true (Gs.its l) = .ok acc) ∧ (Own w.heap.size w' 5 1 v8 (vals .u8 (aid :: (Gs.encP cur tot).1 :: (Gs.encP cur tot).2.1 :: acc))) ∧ (Upd no w w')) (fun J1 hJ1 => ?_) (fun gJ1 wJ1 hI => ?_)
      · refine opv_run (fieldAt_eq (off := 3) (by kernel_rfl)) ?_
        refine opv_run (ldC (by kernel_rfl) h_b1 (by rfl)) ?_
        refine opv_run (len_sl (by kernel_rfl) _ _ _) ?_
        refine loop_intro (fun g w' => ∃ (k : Nat) (v8 : Value) (acc : List Int), (g 37 = .int .i64 (k : Int)) ∧ (k ≤ l.length) ∧ (g 8 = v8) ∧ (Gs.itemsW tot true (Gs.its (l.take k)) = .ok acc) ∧ (acc.length ≤ 200003 * k) ∧ (Own w.heap.size w' 5 1 v8 (vals .u8 (aid :: (Gs.encP cur tot).1 :: (Gs.encP cur tot).2.1 :: acc))) ∧ (Rd w' A (rows Gs.ie l)) ∧ (Gs.Cl w' l) ∧ (Upd no w w')) (fun g w' => l.length - (RowKit.intOf (g 37)).toNat) ?_ (fun g2 wl2 hI => ?_)
        · exact ⟨0, _, [], (by first | exact g37 | rfl), Nat.zero_le _, rfl, rfl, (by simp), (Own.of_block (n := 3) (xs := [_, _, _]) h_b10 (by omega) rfl (by decide)), rd, rdc, hF⟩
        · obtain ⟨k, v8, acc, g37, hk, g8, hacc, hal, own8, rd, rdc, hF⟩ := hI
          try rw [g37]
          try rw [g8]
          refine opv_dec (lss _ _ _ _) (fun h11 => ?_) (fun h11 => ?_)
          · refine condt ?_
            refine idx_rows Gs.encIt (by kernel_rfl) (by kernel_rfl) rd (by first | rfl | assumption | omega) (by omega) (by omega) (fun x12 hx12 => ?_)
            try simp only [Int.toNat_natCast] at hx12
            refine alloc_intro (cs := #[.int .i64 0, .slice none 0 0]) (by kernel_rfl) (fun b13 w13 e13 h_b13 _ U13 => ?_)
            have na_own8_b13 := own8.apart e13
            have na_rd_b13 := rd.apart e13
            have na_rdc_b13 := rdc.apart e13
            have ge_b13 : w.heap.size ≤ b13 := by have := hF.size; omega
            replace own8 := own8.upd0 U13
            replace rd := rd.upd0 U13
            replace rdc := rdc.upd0 U13
            replace hF := hF.go0 U13
            clear e13
            refine store_intro (n := 2) (cs' := (Gs.ie x12).toArray) (by kernel_rfl) (by rfl) (by first | rfl | (simp [Value.cells, Value.oneCell', Gs.cv, Gs.ie]; done)) h_b13 (by first | exact Nat.le_of_ble_eq_true rfl | (simp; done) | omega) (by rfl) (fun w14 N14 _ U14 => ?_)
            replace own8 := own8.upd1 U14 na_own8_b13
            replace rd := rd.upd1 U14 na_rd_b13
            replace rdc := rdc.upd1 U14 na_rdc_b13
            replace h_b13 := N14
            replace hF := hF.go1 U14 ge_b13
            refine opv_run (ldA (n := 2) (cs' := (Gs.ie x12).toArray) (by kernel_rfl) h_b13 (by first | exact Nat.le_of_ble_eq_true rfl | (simp; done) | omega) (by rfl)) ?_
            refine opv_run (eqI _ _ _ _ _) ?_
            refine callF_ex (c_gr_item (rdc.get hx12) rfl (hcb _ (List.mem_of_getElem? hx12))) (fun v15 w15 D15 => ?_)
            obtain ⟨u47, rfl, own47, U15⟩ := D15
            obtain ⟨A47, c47, rfl, rd47⟩ := Own.rd1 own47
            have nx15_own8_own47 : ∀ k, ownS _ k → ¬ ownS _ k := fun k hk hs => by have := (Own.ge own8 hk).2; have := (Own.ge own47 hs).1; omega
            have nx15_rd_own47 : _ ∨ ∀ k, _ → ¬ ownS _ k := (rd.lt).imp_right fun h k hk hs => by have := h k hk; have := (Own.ge own47 hs).1; omega
            have nx15_rdc_own47 : _ ∨ ∀ k, _ → ¬ ownS _ k := (rdc.lt).imp_right fun h k hk hs => by have := h k hk; have := (Own.ge own47 hs).1; omega
            have nx15_h_b13_own47 : ¬ ownS _ b13 := fun h => by have := (Own.ge own47 h).1; have := lt_get h_b13; omega
            replace own47 := own47.mono (B' := w.heap.size) hF.size
            replace own8 := own8.upd0 U15
            replace rd := rd.upd0 U15
            replace rdc := rdc.upd0 U15
            replace h_b13 := U15.get0 h_b13
            replace hF := hF.go0 U15
            have hcl := hcb _ (List.mem_of_getElem? hx12)
            have hil := Gs.itemW_len (x := ((x12).at', (x12).cs)) (f := decide ((k : Int) = 0)) (n := tot)
            dsimp only at hil
            refine opv_run (ext_t (by rfl)) ?_
            refine opv_run (ext_t (by rfl)) ?_
            refine opv_dec (neI _ _ _ _ _) (fun h16 => ?_) (fun h16 => ?_)
            · refine condt ?_
              first | exact ⟨_, rfl, _, by rw [Gs.write_al (show al = true from by assumption)]; rfl, by rw [Gs.write_al (show al = true from by assumption)]; exact Own.of_block (n := 1) (xs := [_]) (by assumption) (by omega) rfl (by decide), hF⟩ | exact ⟨_, rfl, _, by rw [Gs.write_32 (show al = false from by assumption) (Gs.encP_none (by assumption))]; rfl, by rw [Gs.write_32 (show al = false from by assumption) (Gs.encP_none (by assumption))]; exact Own.nil _ _ _ _, hF⟩ | exact ⟨_, rfl, _, by rw [Gs.write_ok (show al = false from by assumption) henc hfin]; rfl, by rw [Gs.write_ok (show al = false from by assumption) henc hfin]; exact own8, hF⟩ | exact ⟨_, rfl, _, by rw [Gs.write_er (show al = false from by assumption) henc (Gs.items_er hacc hx12 (Gs.item_er (by assumption)))]; rfl, by rw [Gs.write_er (show al = false from by assumption) henc (Gs.items_er hacc hx12 (Gs.item_er (by assumption)))]; exact Own.nil _ _ _ _, hF⟩
            · refine condf ?_
              refine app_intro (e := 5) (size := 1) (bytes := 1) (by kernel_rfl) own8 rd47 (by first | (simp [vals_length]; done) | (simp [vals_length]; omega)) vals_one (by simp only [vals_length, List.length_take, List.length_cons, List.length_nil, List.length_append, List.length_map, List.length_range]; omega) (by have := hF.size; omega) (fun v18 w18 N18 U18 => ?_)
              have own8_o := own8
              replace own8 := N18
              replace rd := rd.updS U18 (lt_rd.imp_right fun h k hk hs => by have := h k hk; have := (Own.ge own8_o hs).1; omega)
              replace rdc := rdc.updS U18 (lt_rdc.imp_right fun h k hk hs => by have := h k hk; have := (Own.ge own8_o hs).1; omega)
              replace h_b13 := U18.get h_b13 (fun h => na_own8_b13 _ h rfl)
              replace own47 := own47.updS U18 (fun k hk hs => nx15_own8_own47 k hs hk)
              replace hF := hF.go U18 (fun i h hs => by first | exact hs | exact .inl hs | exact .inr hs | (have := (Own.ge own8_o hs).1; omega))
              clear own8_o
              first | refine opv_run (add_i64 _ (by omega)) ?_ | refine opv_run (addI _ _ _ _) ?_
              exact ⟨⟨k + 1, _, _, (by first | exact g37 | rfl), by omega, (by first | exact g8 | rfl), (Gs.items_step hacc hx12 (Gs.item_ok (by omega))), (by have := hcb _ (List.mem_of_getElem? hx12); have h2 := Gs.itemW_len (x := ((x12).at', (x12).cs)) (f := decide ((k : Int) = 0)) (n := tot); dsimp only at h2; simp only [List.length_append]; omega), (Gs.own_app (acc := aid :: (Gs.encP cur tot).1 :: (Gs.encP cur tot).2.1 :: acc) own8), rd, rdc, hF⟩, cnt_lt (by first | rfl | exact g37) rfl (by omega)⟩
          · refine condf ?_
            refine hJ1 _ _ ?_
            exact ⟨_, _, (by first | exact g8 | rfl), (Gs.items_end hacc (by omega)), own8, hF⟩
      · obtain ⟨v8, acc, g8, hfin, own8, hF⟩ := hI
        try rw [g8]
        first | exact ⟨_, rfl, _, by rw [Gs.write_al (show al = true from by assumption)]; rfl, by rw [Gs.write_al (show al = true from by assumption)]; exact Own.of_block (n := 1) (xs := [_]) (by assumption) (by omega) rfl (by decide), hF⟩ | exact ⟨_, rfl, _, by rw [Gs.write_32 (show al = false from by assumption) (Gs.encP_none (by assumption))]; rfl, by rw [Gs.write_32 (show al = false from by assumption) (Gs.encP_none (by assumption))]; exact Own.nil _ _ _ _, hF⟩ | exact ⟨_, rfl, _, by rw [Gs.write_ok (show al = false from by assumption) henc hfin]; rfl, by rw [Gs.write_ok (show al = false from by assumption) henc hfin]; exact own8, hF⟩ | exact ⟨_, rfl, _, by rw [Gs.write_er (show al = false from by assumption) henc (Gs.items_er hacc hx12 (Gs.item_er (by assumption)))]; rfl, by rw [Gs.write_er (show al = false from by assumption) henc (Gs.items_er hacc hx12 (Gs.item_er (by assumption)))]; exact Own.nil _ _ _ _, hF⟩

end Go.Proofs.YtkjkmahpkfbbnaaGreatDoor
