/-
  Contracts of functions of the program, walked over their shallow forms. No condition but the ones that each states.
-/
import Derived.Test.YtkjkmahpkfbbnaaDoorGj
import Derived.Test.YtkjkmahpkfbbnaaDoorGramRd
namespace Go.Proofs.YtkjkmahpkfbbnaaDoor
open Go Go.Sh
set_option linter.unusedVariables false
set_option maxRecDepth 100000


/-- greenscreen/greenscreenref25.cell -/
theorem c_ref25_cell {A : Option Addr} {n cp i : Nat} {bs : List Int} {w : World} (rd1 : Rd w A (vals .u8 bs)) (hn : n = bs.length) (hbs : Bs bs) (hi : i < bs.length) (hbd : n ≤ 1000000) :
    Calls Tryd.prog 25 #[.slice A n cp, .int .i64 (i : Nat)] w fun e w' => ∃ v, e = .returned v ∧ ∃ (x : Gs.Cell) (m : Nat) (z : Int), v = .tuple #[.agg (Gs.cv x).toArray, .int .i64 (m : Nat), .int .i64 z] ∧ ((z = 0 ∧ Gs.cellF (bs.drop i) = .ok (x, bs.drop (i + m)) ∧ 1 ≤ m ∧ i + m ≤ bs.length ∧ (0 ≤ x.b ∧ x.b ≤ 255)) ∨ (z ≠ 0 ∧ Gs.cellF (bs.drop i) = .error z)) ∧ Upd no w w' := by
  refine F25.calls ?_
  unfold F25
  have lt_rd1 := rd1.lt
  have hF : Upd no w w := Fr.refl _ _ _
  refine alloc_intro (cs := (Gs.cv Gs.zc).toArray) (by kernel_rfl) (fun b1 w1 e1 h_b1 _ U1 => ?_)
  have na_rd1_b1 := rd1.apart e1
  have ge_b1 : w.heap.size ≤ b1 := by have := hF.size; omega
  replace rd1 := rd1.upd0 U1
  replace hF := hF.go0 U1
  clear e1
  refine idx_int (by kernel_rfl) (by kernel_rfl) rd1 (by first | rfl | assumption | omega | (simp; done) | (simp [vals_length, *]; done) | (simp [vals_length] at *; omega)) (by omega) (by omega) (fun x2 hx2 => ?_)
  try simp only [Int.toNat_natCast] at hx2
  refine callF_bool (c_ref12_Plain) (fun w3 U3 h3 => ?_) (fun w3 U3 h3 => ?_)
  · replace rd1 := rd1.upd0 U3
    replace h_b1 := U3.get0 h_b1
    replace hF := hF.go0 U3
    try simp only [decide_eq_true_eq, decide_eq_false_iff_not] at h3
    refine condt ?_
    refine idx_int (by kernel_rfl) (by kernel_rfl) rd1 (by first | rfl | assumption | omega | (simp; done) | (simp [vals_length, *]; done) | (simp [vals_length] at *; omega)) (by omega) (by omega) (fun x4 hx4 => ?_)
    try simp only [Int.toNat_natCast] at hx4
    have e15 : x4 = x2 := Option.some.inj (hx4.symm.trans hx2)
    rw [e15]
    refine opv_run (build_eq (l := [(0, 1), (1, 1), (2, 1), (3, 1), (4, 1)]) (z := #[.int .u8 0, .bool false, .bool false, .int .u8 0, .int .u8 0]) (cs := Gs.cv ⟨x2, false, false, 0, 0⟩) (by kernel_rfl) (by rfl)) ?_
    refine store_intro (n := 5) (cs' := (Gs.cv ⟨x2, false, false, 0, 0⟩).toArray) (by kernel_rfl) (by rfl) (by first | rfl | (simp [Value.cells, Value.oneCell', Gs.cv, Gs.ie]; done)) h_b1 (by first | exact Nat.le_of_ble_eq_true rfl | (simp; done) | omega) (by rfl) (fun w6 N6 _ U6 => ?_)
    replace rd1 := rd1.upd1 U6 na_rd1_b1
    replace h_b1 := N6
    replace hF := hF.go1 U6 ge_b1
    refine ldv_run (ldA (n := 5) (by kernel_rfl) h_b1 (by first | exact Nat.le_of_ble_eq_true rfl | simp | omega) (by rfl)) ?_
    first | exact ⟨_, rfl, ⟨x2, false, false, 0, 0⟩, 1, 0, rfl, .inl ⟨rfl, Gs.rc_p hx2 (by assumption), by omega, by omega, hbs.get hx2⟩, hF⟩ | exact ⟨_, rfl, ⟨x?, true, false, 0, 0⟩, 2, 0, rfl, .inl ⟨rfl, Gs.rc_8 hx2 (by first | assumption | exact Classical.not_not.1 (by assumption) | omega) (show bs[i + 1]? = some x? by rw [← show ((i : Int) + 1).toNat = i + 1 by omega]; exact hx?) (by assumption), by omega, by omega, hbs.get hx?⟩, hF⟩ | exact ⟨_, rfl, Gs.zc, 0, 21, rfl, .inr ⟨by decide, Gs.rc_64 hx2 (by first | assumption | exact Classical.not_not.1 (by assumption) | omega) (show bs[i + 1]? = some x? by rw [← show ((i : Int) + 1).toNat = i + 1 by omega]; exact hx?) (by assumption)⟩, hF⟩ | exact ⟨_, rfl, Gs.zc, 0, 20, rfl, .inr ⟨by decide, Gs.rc_20 hx2 (by first | assumption | exact Classical.not_not.1 (by assumption) | omega) (by omega)⟩, hF⟩ | exact ⟨_, rfl, Gs.zc, 0, 21, rfl, .inr ⟨by decide, Gs.rc_21 hx2 (by first | assumption | exact Bool.eq_false_iff.2 (by assumption)) (by assumption)⟩, hF⟩
  · replace rd1 := rd1.upd0 U3
    replace h_b1 := U3.get0 h_b1
    replace hF := hF.go0 U3
    try simp only [decide_eq_true_eq, decide_eq_false_iff_not] at h3
    refine condf ?_
    refine idx_int (by kernel_rfl) (by kernel_rfl) rd1 (by first | rfl | assumption | omega | (simp; done) | (simp [vals_length, *]; done) | (simp [vals_length] at *; omega)) (by omega) (by omega) (fun x8 hx8 => ?_)
    try simp only [Int.toNat_natCast] at hx8
    have e20 : x8 = x2 := Option.some.inj (hx8.symm.trans hx2)
    rw [e20]
    refine opv_dec (neI _ _ _ _ _) (fun h9 => ?_) (fun h9 => ?_)
    · refine condt ?_
      refine opv_run (build_eq (l := [(0, 1), (1, 1), (2, 1), (3, 1), (4, 1)]) (z := #[.int .u8 0, .bool false, .bool false, .int .u8 0, .int .u8 0]) (cs := (Gs.cv Gs.zc)) (by kernel_rfl) (by rfl)) ?_
      refine store_intro (n := 5) (cs' := (Gs.cv Gs.zc).toArray) (by kernel_rfl) (by rfl) (by first | rfl | (simp [Value.cells, Value.oneCell', Gs.cv, Gs.ie]; done)) h_b1 (by first | exact Nat.le_of_ble_eq_true rfl | (simp; done) | omega) (by rfl) (fun w10 N10 _ U10 => ?_)
      replace rd1 := rd1.upd1 U10 na_rd1_b1
      replace h_b1 := N10
      replace hF := hF.go1 U10 ge_b1
      refine ldv_run (ldA (n := 5) (by kernel_rfl) h_b1 (by first | exact Nat.le_of_ble_eq_true rfl | simp | omega) (by rfl)) ?_
      first | exact ⟨_, rfl, ⟨x2, false, false, 0, 0⟩, 1, 0, rfl, .inl ⟨rfl, Gs.rc_p hx2 (by assumption), by omega, by omega, hbs.get hx2⟩, hF⟩ | exact ⟨_, rfl, ⟨x?, true, false, 0, 0⟩, 2, 0, rfl, .inl ⟨rfl, Gs.rc_8 hx2 (by first | assumption | exact Classical.not_not.1 (by assumption) | omega) (show bs[i + 1]? = some x? by rw [← show ((i : Int) + 1).toNat = i + 1 by omega]; exact hx?) (by assumption), by omega, by omega, hbs.get hx?⟩, hF⟩ | exact ⟨_, rfl, Gs.zc, 0, 21, rfl, .inr ⟨by decide, Gs.rc_64 hx2 (by first | assumption | exact Classical.not_not.1 (by assumption) | omega) (show bs[i + 1]? = some x? by rw [← show ((i : Int) + 1).toNat = i + 1 by omega]; exact hx?) (by assumption)⟩, hF⟩ | exact ⟨_, rfl, Gs.zc, 0, 20, rfl, .inr ⟨by decide, Gs.rc_20 hx2 (by first | assumption | exact Classical.not_not.1 (by assumption) | omega) (by omega)⟩, hF⟩ | exact ⟨_, rfl, Gs.zc, 0, 21, rfl, .inr ⟨by decide, Gs.rc_21 hx2 (by first | assumption | exact Bool.eq_false_iff.2 (by assumption)) (by assumption)⟩, hF⟩
    · refine condf ?_
      first | refine opv_run (add_i64 _ (by omega)) ?_ | refine opv_run (addI _ _ _ _) ?_
      refine opv_run (len_sl (by kernel_rfl) _ _ _) ?_
      refine opv_dec (geq _ _ _ _) (fun h12 => ?_) (fun h12 => ?_)
      · refine condt ?_
        refine opv_run (build_eq (l := [(0, 1), (1, 1), (2, 1), (3, 1), (4, 1)]) (z := #[.int .u8 0, .bool false, .bool false, .int .u8 0, .int .u8 0]) (cs := (Gs.cv Gs.zc)) (by kernel_rfl) (by rfl)) ?_
        refine store_intro (n := 5) (cs' := (Gs.cv Gs.zc).toArray) (by kernel_rfl) (by rfl) (by first | rfl | (simp [Value.cells, Value.oneCell', Gs.cv, Gs.ie]; done)) h_b1 (by first | exact Nat.le_of_ble_eq_true rfl | (simp; done) | omega) (by rfl) (fun w13 N13 _ U13 => ?_)
        replace rd1 := rd1.upd1 U13 na_rd1_b1
        replace h_b1 := N13
        replace hF := hF.go1 U13 ge_b1
        refine ldv_run (ldA (n := 5) (by kernel_rfl) h_b1 (by first | exact Nat.le_of_ble_eq_true rfl | simp | omega) (by rfl)) ?_
        first | exact ⟨_, rfl, ⟨x2, false, false, 0, 0⟩, 1, 0, rfl, .inl ⟨rfl, Gs.rc_p hx2 (by assumption), by omega, by omega, hbs.get hx2⟩, hF⟩ | exact ⟨_, rfl, ⟨x?, true, false, 0, 0⟩, 2, 0, rfl, .inl ⟨rfl, Gs.rc_8 hx2 (by first | assumption | exact Classical.not_not.1 (by assumption) | omega) (show bs[i + 1]? = some x? by rw [← show ((i : Int) + 1).toNat = i + 1 by omega]; exact hx?) (by assumption), by omega, by omega, hbs.get hx?⟩, hF⟩ | exact ⟨_, rfl, Gs.zc, 0, 21, rfl, .inr ⟨by decide, Gs.rc_64 hx2 (by first | assumption | exact Classical.not_not.1 (by assumption) | omega) (show bs[i + 1]? = some x? by rw [← show ((i : Int) + 1).toNat = i + 1 by omega]; exact hx?) (by assumption)⟩, hF⟩ | exact ⟨_, rfl, Gs.zc, 0, 20, rfl, .inr ⟨by decide, Gs.rc_20 hx2 (by first | assumption | exact Classical.not_not.1 (by assumption) | omega) (by omega)⟩, hF⟩ | exact ⟨_, rfl, Gs.zc, 0, 21, rfl, .inr ⟨by decide, Gs.rc_21 hx2 (by first | assumption | exact Bool.eq_false_iff.2 (by assumption)) (by assumption)⟩, hF⟩
      · refine condf ?_
        first | refine opv_run (add_i64 _ (by omega)) ?_ | refine opv_run (addI _ _ _ _) ?_
        refine idx_int (by kernel_rfl) (by kernel_rfl) rd1 (by first | rfl | assumption | omega | (simp; done) | (simp [vals_length, *]; done) | (simp [vals_length] at *; omega)) (by omega) (by omega) (fun x15 hx15 => ?_)
        try simp only [Int.toNat_natCast] at hx15
        refine opv_dec (lss _ _ _ _) (fun h16 => ?_) (fun h16 => ?_)
        · refine condt ?_
          refine opv_run (build_eq (l := [(0, 1), (1, 1), (2, 1), (3, 1), (4, 1)]) (z := #[.int .u8 0, .bool false, .bool false, .int .u8 0, .int .u8 0]) (cs := (Gs.cv Gs.zc)) (by kernel_rfl) (by rfl)) ?_
          refine store_intro (n := 5) (cs' := (Gs.cv Gs.zc).toArray) (by kernel_rfl) (by rfl) (by first | rfl | (simp [Value.cells, Value.oneCell', Gs.cv, Gs.ie]; done)) h_b1 (by first | exact Nat.le_of_ble_eq_true rfl | (simp; done) | omega) (by rfl) (fun w17 N17 _ U17 => ?_)
          replace rd1 := rd1.upd1 U17 na_rd1_b1
          replace h_b1 := N17
          replace hF := hF.go1 U17 ge_b1
          refine ldv_run (ldA (n := 5) (by kernel_rfl) h_b1 (by first | exact Nat.le_of_ble_eq_true rfl | simp | omega) (by rfl)) ?_
          first | exact ⟨_, rfl, ⟨x2, false, false, 0, 0⟩, 1, 0, rfl, .inl ⟨rfl, Gs.rc_p hx2 (by assumption), by omega, by omega, hbs.get hx2⟩, hF⟩ | exact ⟨_, rfl, ⟨x15, true, false, 0, 0⟩, 2, 0, rfl, .inl ⟨rfl, Gs.rc_8 hx2 (by first | assumption | exact Classical.not_not.1 (by assumption) | omega) (show bs[i + 1]? = some x15 by rw [← show ((i : Int) + 1).toNat = i + 1 by omega]; exact hx15) (by assumption), by omega, by omega, hbs.get hx15⟩, hF⟩ | exact ⟨_, rfl, Gs.zc, 0, 21, rfl, .inr ⟨by decide, Gs.rc_64 hx2 (by first | assumption | exact Classical.not_not.1 (by assumption) | omega) (show bs[i + 1]? = some x15 by rw [← show ((i : Int) + 1).toNat = i + 1 by omega]; exact hx15) (by assumption)⟩, hF⟩ | exact ⟨_, rfl, Gs.zc, 0, 20, rfl, .inr ⟨by decide, Gs.rc_20 hx2 (by first | assumption | exact Classical.not_not.1 (by assumption) | omega) (by omega)⟩, hF⟩ | exact ⟨_, rfl, Gs.zc, 0, 21, rfl, .inr ⟨by decide, Gs.rc_21 hx2 (by first | assumption | exact Bool.eq_false_iff.2 (by assumption)) (by assumption)⟩, hF⟩
        · refine condf ?_
          first | refine opv_run (add_i64 _ (by omega)) ?_ | refine opv_run (addI _ _ _ _) ?_
          refine idx_int (by kernel_rfl) (by kernel_rfl) rd1 (by first | rfl | assumption | omega | (simp; done) | (simp [vals_length, *]; done) | (simp [vals_length] at *; omega)) (by omega) (by omega) (fun x19 hx19 => ?_)
          try simp only [Int.toNat_natCast] at hx19
          have e40 : x19 = x15 := Option.some.inj (hx19.symm.trans hx15)
          rw [e40]
          refine opv_run (build_eq (l := [(0, 1), (1, 1), (2, 1), (3, 1), (4, 1)]) (z := #[.int .u8 0, .bool false, .bool false, .int .u8 0, .int .u8 0]) (cs := Gs.cv ⟨x15, true, false, 0, 0⟩) (by kernel_rfl) (by rfl)) ?_
          refine store_intro (n := 5) (cs' := (Gs.cv ⟨x15, true, false, 0, 0⟩).toArray) (by kernel_rfl) (by rfl) (by first | rfl | (simp [Value.cells, Value.oneCell', Gs.cv, Gs.ie]; done)) h_b1 (by first | exact Nat.le_of_ble_eq_true rfl | (simp; done) | omega) (by rfl) (fun w21 N21 _ U21 => ?_)
          replace rd1 := rd1.upd1 U21 na_rd1_b1
          replace h_b1 := N21
          replace hF := hF.go1 U21 ge_b1
          refine ldv_run (ldA (n := 5) (by kernel_rfl) h_b1 (by first | exact Nat.le_of_ble_eq_true rfl | simp | omega) (by rfl)) ?_
          first | exact ⟨_, rfl, ⟨x2, false, false, 0, 0⟩, 1, 0, rfl, .inl ⟨rfl, Gs.rc_p hx2 (by assumption), by omega, by omega, hbs.get hx2⟩, hF⟩ | exact ⟨_, rfl, ⟨x15, true, false, 0, 0⟩, 2, 0, rfl, .inl ⟨rfl, Gs.rc_8 hx2 (by first | assumption | exact Classical.not_not.1 (by assumption) | omega) (show bs[i + 1]? = some x15 by rw [← show ((i : Int) + 1).toNat = i + 1 by omega]; exact hx15) (by assumption), by omega, by omega, hbs.get hx15⟩, hF⟩ | exact ⟨_, rfl, Gs.zc, 0, 21, rfl, .inr ⟨by decide, Gs.rc_64 hx2 (by first | assumption | exact Classical.not_not.1 (by assumption) | omega) (show bs[i + 1]? = some x15 by rw [← show ((i : Int) + 1).toNat = i + 1 by omega]; exact hx15) (by assumption)⟩, hF⟩ | exact ⟨_, rfl, Gs.zc, 0, 20, rfl, .inr ⟨by decide, Gs.rc_20 hx2 (by first | assumption | exact Classical.not_not.1 (by assumption) | omega) (by omega)⟩, hF⟩ | exact ⟨_, rfl, Gs.zc, 0, 21, rfl, .inr ⟨by decide, Gs.rc_21 hx2 (by first | assumption | exact Bool.eq_false_iff.2 (by assumption)) (by assumption)⟩, hF⟩

/-- greenscreen/greenscreenref25.Buffer -/
theorem c_ref25_Buffer {A : Option Addr} {n cp : Nat} {bs : List Int} {w : World} (rd1 : Rd w A (vals .u8 bs)) (hn : n = bs.length) (hc : n ≤ cp) (hbs : Bs bs) (hbd : n ≤ 100000) :
    Calls Tryd.prog 11 #[.slice A n cp] w fun e w' => ∃ v, e = .returned v ∧ ∃ (a c : Int) (xs : List Gs.Cell) (A' : Option Addr) (c' : Nat), (a, c, xs) = Gs.bufV bs ∧ v = .tuple #[.int .u8 a, .int .i64 c, .slice A' xs.length c', .int .i64 (Gs.errV (Gs.bufF bs))] ∧ Rd w' A' (rows Gs.cv xs) ∧ Gs.Cws xs ∧ GeA A' (rows Gs.cv xs) w.heap.size ∧ Upd no w w' := by
  refine F11.calls ?_
  unfold F11
  have lt_rd1 := rd1.lt
  have hF : Upd no w w := Fr.refl _ _ _
  refine opv_run (len_sl (by kernel_rfl) _ _ _) ?_
  refine opv_dec (lss _ _ _ _) (fun h1 => ?_) (fun h1 => ?_)
  · refine condt ?_
    first | exact ⟨_, rfl, 0, 0, [], none, 0, by unfold Gs.bufV; rw [Gs.bufF_short (by omega)], by rw [Gs.bufF_short (by omega)]; rfl, Rd.nil _ _, (fun _ h => by cases h), .inl rfl, hF⟩ | exact ⟨_, rfl, 0, 0, [], none, 0, by unfold Gs.bufV; rw [Gs.bufF_3e hya hyb hyc (Gs.preB_err hinv (Gs.drop_ne (by omega)) (Gs.rb_29e hx? (by assumption) (by omega)))], by rw [Gs.bufF_3e hya hyb hyc (Gs.preB_err hinv (Gs.drop_ne (by omega)) (Gs.rb_29e hx? (by assumption) (by omega)))]; rfl, Rd.nil _ _, (fun _ h => by cases h), .inl rfl, hF⟩ | exact ⟨_, rfl, 0, 0, [], none, 0, by unfold Gs.bufV; rw [Gs.bufF_3e hya hyb hyc (Gs.preB_err hinv (Gs.drop_ne (by omega)) ((Gs.rb_no hx? (by assumption)).trans (hc44.resolve_left (fun h => absurd h.1 (by assumption))).2))], by rw [Gs.bufF_3e hya hyb hyc (Gs.preB_err hinv (Gs.drop_ne (by omega)) ((Gs.rb_no hx? (by assumption)).trans (hc44.resolve_left (fun h => absurd h.1 (by assumption))).2))]; rfl, Rd.nil _ _, (fun _ h => by cases h), .inl rfl, hF⟩ | exact ⟨_, rfl, _, _, xs, A6, c6, by unfold Gs.bufV; rw [Gs.bufF_3 hx? hx? hx? hfin], by rw [Gs.bufF_3 hx? hx? hx? hfin]; rfl, own6.rdS, hcw, .inr (fun k hk => (own6.geb k hk).1), hF⟩
  · refine condf ?_
    refine buildSlice_intro (e := 59) (m := 5) (z := #[.int .u8 0, .bool false, .bool false, .int .u8 0, .int .u8 0]) (by kernel_rfl) (by kernel_rfl) (by rfl) (by decide) (by first | (simp [fillL, splice, repL, Value.cells, Gs.cv, Gs.ie]; done) | (simp [fillL, splice, repL, Value.cells, Gs.cv, Gs.ie]; rfl)) (fun b3 w3 e3 h_b3 _ U3 => ?_)
    have na_rd1_b3 := rd1.apart e3
    have ge_b3 : w.heap.size ≤ b3 := by have := hF.size; omega
    replace rd1 := rd1.upd0 U3
    replace hF := hF.go0 U3
    clear e3
    have own_b3 := Own.of_block (n := 0) (xs := rows Gs.cv []) (size := 5) h_b3 ge_b3 rfl (by decide)
    refine join_cut (fun g w' => ∃ (A6 : Option Addr) (c6 : Nat) (xs : List Gs.Cell), (g 6 = .slice A6 xs.length c6) ∧ (Gs.bcellsF (bs.drop 3) = .ok xs) ∧ (Gs.Cws xs) ∧ (Own w.heap.size w' 59 5 (.slice A6 xs.length c6) (rows Gs.cv xs)) ∧ (Rd w' A (vals .u8 bs)) ∧ (Upd no w w')) (fun J1 hJ1 => ?_) (fun gJ1 wJ1 hI => ?_)
    · refine loop_intro (fun g w' => ∃ (i : Nat) (A6 : Option Addr) (c6 : Nat) (xs : List Gs.Cell), (g 7 = .int .i64 (i : Nat)) ∧ (3 ≤ i ∧ i ≤ bs.length) ∧ (g 6 = .slice A6 xs.length c6) ∧ (Gs.bcellsF (bs.drop 3) = Gs.preB xs (Gs.bcellsF (bs.drop i))) ∧ (Gs.Cws xs) ∧ (xs.length ≤ i) ∧ (Own w.heap.size w' 59 5 (.slice A6 xs.length c6) (rows Gs.cv xs)) ∧ (Rd w' A (vals .u8 bs)) ∧ (Upd no w w')) (fun g w' => bs.length - (RowKit.intOf (g 7)).toNat) ?_ (fun g2 wl2 hI => ?_)
      · exact ⟨3, _, _, [], rfl, (by omega), rfl, (Gs.preB_nil _), (fun _ h => by cases h), (by simp), (by assumption), rd1, hF⟩
      · obtain ⟨i, A6, c6, xs, g7, hi3, g6, hinv, hcw, hxl, own6, rd1, hF⟩ := hI
        try rw [g7]
        try rw [g6]
        obtain ⟨ya, yb, yc, hya, hyb, hyc⟩ := Gs.bs_3 (bs := bs) (by omega)
        refine opv_run (len_sl (by kernel_rfl) _ _ _) ?_
        refine opv_dec (lss _ _ _ _) (fun h4 => ?_) (fun h4 => ?_)
        · refine condt ?_
          refine idx_int (by kernel_rfl) (by kernel_rfl) rd1 (by first | rfl | assumption | omega | (simp; done) | (simp [vals_length, *]; done) | (simp [vals_length] at *; omega)) (by omega) (by omega) (fun x5 hx5 => ?_)
          try simp only [Int.toNat_natCast] at hx5
          refine opv_dec (eqI _ _ _ _ _) (fun h6 => ?_) (fun h6 => ?_)
          · refine condt ?_
            first | refine opv_run (add_i64 _ (by omega)) ?_ | refine opv_run (addI _ _ _ _) ?_
            refine opv_run (len_sl (by kernel_rfl) _ _ _) ?_
            refine opv_dec (geq _ _ _ _) (fun h7 => ?_) (fun h7 => ?_)
            · refine condt ?_
              first | exact ⟨_, rfl, 0, 0, [], none, 0, by unfold Gs.bufV; rw [Gs.bufF_short (by omega)], by rw [Gs.bufF_short (by omega)]; rfl, Rd.nil _ _, (fun _ h => by cases h), .inl rfl, hF⟩ | exact ⟨_, rfl, 0, 0, [], none, 0, by unfold Gs.bufV; rw [Gs.bufF_3e hya hyb hyc (Gs.preB_err hinv (Gs.drop_ne (by omega)) (Gs.rb_29e hx5 (by assumption) (by omega)))], by rw [Gs.bufF_3e hya hyb hyc (Gs.preB_err hinv (Gs.drop_ne (by omega)) (Gs.rb_29e hx5 (by assumption) (by omega)))]; rfl, Rd.nil _ _, (fun _ h => by cases h), .inl rfl, hF⟩ | exact ⟨_, rfl, 0, 0, [], none, 0, by unfold Gs.bufV; rw [Gs.bufF_3e hya hyb hyc (Gs.preB_err hinv (Gs.drop_ne (by omega)) ((Gs.rb_no hx5 (by assumption)).trans (hc44.resolve_left (fun h => absurd h.1 (by assumption))).2))], by rw [Gs.bufF_3e hya hyb hyc (Gs.preB_err hinv (Gs.drop_ne (by omega)) ((Gs.rb_no hx5 (by assumption)).trans (hc44.resolve_left (fun h => absurd h.1 (by assumption))).2))]; rfl, Rd.nil _ _, (fun _ h => by cases h), .inl rfl, hF⟩ | exact ⟨_, rfl, _, _, xs, A6, c6, by unfold Gs.bufV; rw [Gs.bufF_3 hx? hx? hx? hfin], by rw [Gs.bufF_3 hx? hx? hx? hfin]; rfl, own6.rdS, hcw, .inr (fun k hk => (own6.geb k hk).1), hF⟩
            · refine condf ?_
              first | refine opv_run (add_i64 _ (by omega)) ?_ | refine opv_run (addI _ _ _ _) ?_
              refine idx_int (by kernel_rfl) (by kernel_rfl) rd1 (by first | rfl | assumption | omega | (simp; done) | (simp [vals_length, *]; done) | (simp [vals_length] at *; omega)) (by omega) (by omega) (fun x9 hx9 => ?_)
              try simp only [Int.toNat_natCast] at hx9
              have hb34 := hbs.get hx9
              refine opv_run (rem_u8 _ (by omega) (by omega)) ?_
              refine opv_run (build_eq (l := [(0, 1), (1, 1), (2, 1), (3, 1), (4, 1)]) (z := #[.int .u8 0, .bool false, .bool false, .int .u8 0, .int .u8 0]) (cs := Gs.cv ⟨(x9 % 64), false, true, 0, 0⟩) (by kernel_rfl) (by rfl)) ?_
              refine buildSlice_intro (e := 59) (m := 5) (z := #[.int .u8 0, .bool false, .bool false, .int .u8 0, .int .u8 0]) (by kernel_rfl) (by kernel_rfl) (by rfl) (by decide) (by first | (simp [fillL, splice, repL, Value.cells, Gs.cv, Gs.ie]; done) | (simp [fillL, splice, repL, Value.cells, Gs.cv, Gs.ie]; rfl)) (fun b12 w12 e12 h_b12 _ U12 => ?_)
              have na_own6_b12 := own6.apart e12
              have na_rd1_b12 := rd1.apart e12
              have ge_b12 : w.heap.size ≤ b12 := by have := hF.size; omega
              replace own6 := own6.upd0 U12
              replace rd1 := rd1.upd0 U12
              replace hF := hF.go0 U12
              clear e12
              refine app_introA (e := 59) (size := 5) (bytes := 5) (by kernel_rfl) own6 (show Rd _ (some ⟨b12, 0, none⟩) (rows Gs.cv [⟨(x9 % 64), false, true, 0, 0⟩]) from Rd.of_blockL h_b12) (by first | exact rows_len Gs.encC _ | (rw [rows_len Gs.encC]; omega)) (rows_one Gs.encC _) (by rw [rows_len Gs.encC, rows_len Gs.encC]; try simp only [List.length_nil, List.length_cons, List.length_take, List.length_append]; omega) (by have := hF.size; omega) (fun v13 w13 N13 hA13 U13 => ?_)
              have own6_o := own6
              replace own6 := N13
              replace rd1 := rd1.updS U13 (lt_rd1.imp_right fun h k hk hs => by have := h k hk; have := (Own.ge own6_o hs).1; omega)
              replace h_b12 := U13.get h_b12 (fun h => na_own6_b12 _ h rfl)
              replace hF := hF.go U13 (fun i h hs => by first | exact hs | exact .inl hs | exact .inr hs | (have := (Own.ge own6_o hs).1; omega))
              clear own6_o
              rw [rows_append] at own6
              try simp only [List.nil_append] at own6
              obtain ⟨A13, c13, rfl⟩ := Own.open Gs.encC own6
              first | refine opv_run (add_i64 _ (by omega)) ?_ | refine opv_run (addI _ _ _ _) ?_
              exact ⟨⟨_, _, _, _, (by first | exact congrArg (Value.int .i64) (show _ = ((i + 2 : Nat) : Int) by omega) | exact congrArg (Value.int .i64) (show _ = ((i + m44 : Nat) : Int) by omega)), (by omega), (by first | exact g6 | rfl), (by first | exact Gs.preB_step hinv (Gs.drop_ne (by omega)) (Gs.rb_29 hx5 (by assumption) (show bs[i + 1]? = some x9 by rw [← show ((i : Int) + 1).toNat = i + 1 by omega]; exact hx9)) | exact Gs.preB_step hinv (Gs.drop_ne (by omega)) ((Gs.rb_no hx5 (by assumption)).trans hc1)), (hcw.snoc (by first | exact hc4 | (dsimp only; omega))), (by simp only [List.length_append, List.length_cons, List.length_nil]; omega), own6, rd1, hF⟩, Gs.cnt_up (by first | rfl | exact g7) rfl (by omega) (by omega)⟩
          · refine condf ?_
            refine callF_ex (c_ref25_cell rd1 hn hbs (i := i) (by omega) (by omega)) (fun v14 w14 D14 => ?_)
            obtain ⟨x44, m44, z44, rfl, hc44, U14⟩ := D14
            replace own6 := own6.upd0 U14
            replace rd1 := rd1.upd0 U14
            replace hF := hF.go0 U14
            refine opv_run (ext_t (by rfl)) ?_
            refine opv_run (ext_t (by rfl)) ?_
            refine opv_run (ext_t (by rfl)) ?_
            refine alloc_intro (cs := (Gs.cv Gs.zc).toArray) (by kernel_rfl) (fun b15 w15 e15 h_b15 _ U15 => ?_)
            have na_own6_b15 := own6.apart e15
            have na_rd1_b15 := rd1.apart e15
            have ge_b15 : w.heap.size ≤ b15 := by have := hF.size; omega
            replace own6 := own6.upd0 U15
            replace rd1 := rd1.upd0 U15
            replace hF := hF.go0 U15
            clear e15
            refine store_intro (n := 5) (cs' := (Gs.cv x44).toArray) (by kernel_rfl) (by rfl) (by first | rfl | (simp [Value.cells, Value.oneCell', Gs.cv, Gs.ie]; done)) h_b15 (by first | exact Nat.le_of_ble_eq_true rfl | (simp; done) | omega) (by rfl) (fun w16 N16 _ U16 => ?_)
            replace own6 := own6.upd1 U16 na_own6_b15
            replace rd1 := rd1.upd1 U16 na_rd1_b15
            replace h_b15 := N16
            replace hF := hF.go1 U16 ge_b15
            refine opv_dec (neI _ _ _ _ _) (fun h17 => ?_) (fun h17 => ?_)
            · refine condt ?_
              first | exact ⟨_, rfl, 0, 0, [], none, 0, by unfold Gs.bufV; rw [Gs.bufF_short (by omega)], by rw [Gs.bufF_short (by omega)]; rfl, Rd.nil _ _, (fun _ h => by cases h), .inl rfl, hF⟩ | exact ⟨_, rfl, 0, 0, [], none, 0, by unfold Gs.bufV; rw [Gs.bufF_3e hya hyb hyc (Gs.preB_err hinv (Gs.drop_ne (by omega)) (Gs.rb_29e hx5 (by assumption) (by omega)))], by rw [Gs.bufF_3e hya hyb hyc (Gs.preB_err hinv (Gs.drop_ne (by omega)) (Gs.rb_29e hx5 (by assumption) (by omega)))]; rfl, Rd.nil _ _, (fun _ h => by cases h), .inl rfl, hF⟩ | exact ⟨_, rfl, 0, 0, [], none, 0, by unfold Gs.bufV; rw [Gs.bufF_3e hya hyb hyc (Gs.preB_err hinv (Gs.drop_ne (by omega)) ((Gs.rb_no hx5 (by assumption)).trans (hc44.resolve_left (fun h => absurd h.1 (by assumption))).2))], by rw [Gs.bufF_3e hya hyb hyc (Gs.preB_err hinv (Gs.drop_ne (by omega)) ((Gs.rb_no hx5 (by assumption)).trans (hc44.resolve_left (fun h => absurd h.1 (by assumption))).2))]; rfl, Rd.nil _ _, (fun _ h => by cases h), .inl rfl, hF⟩ | exact ⟨_, rfl, _, _, xs, A6, c6, by unfold Gs.bufV; rw [Gs.bufF_3 hx? hx? hx? hfin], by rw [Gs.bufF_3 hx? hx? hx? hfin]; rfl, own6.rdS, hcw, .inr (fun k hk => (own6.geb k hk).1), hF⟩
            · refine condf ?_
              obtain ⟨hc0, hc1, hc2, hc3, hc4⟩ := hc44.resolve_right (fun h => h.1 (Classical.not_not.1 (by assumption)))
              refine opv_run (ldA (n := 5) (cs' := (Gs.cv x44).toArray) (by kernel_rfl) h_b15 (by first | exact Nat.le_of_ble_eq_true rfl | (simp; done) | omega) (by rfl)) ?_
              refine buildSlice_intro (e := 59) (m := 5) (z := #[.int .u8 0, .bool false, .bool false, .int .u8 0, .int .u8 0]) (by kernel_rfl) (by kernel_rfl) (by rfl) (by decide) (by first | (simp [fillL, splice, repL, Value.cells, Gs.cv, Gs.ie]; done) | (simp [fillL, splice, repL, Value.cells, Gs.cv, Gs.ie]; rfl)) (fun b19 w19 e19 h_b19 _ U19 => ?_)
              have na_own6_b19 := own6.apart e19
              have na_rd1_b19 := rd1.apart e19
              have ne_b15_b19 : b15 ≠ b19 := by have := lt_get h_b15; omega
              have ge_b19 : w.heap.size ≤ b19 := by have := hF.size; omega
              replace own6 := own6.upd0 U19
              replace rd1 := rd1.upd0 U19
              replace h_b15 := U19.get0 h_b15
              replace hF := hF.go0 U19
              clear e19
              refine app_introA (e := 59) (size := 5) (bytes := 5) (by kernel_rfl) own6 (show Rd _ (some ⟨b19, 0, none⟩) (rows Gs.cv [x44]) from Rd.of_blockL h_b19) (by first | exact rows_len Gs.encC _ | (rw [rows_len Gs.encC]; omega)) (rows_one Gs.encC _) (by rw [rows_len Gs.encC, rows_len Gs.encC]; try simp only [List.length_nil, List.length_cons, List.length_take, List.length_append]; omega) (by have := hF.size; omega) (fun v20 w20 N20 hA20 U20 => ?_)
              have own6_o := own6
              replace own6 := N20
              replace rd1 := rd1.updS U20 (lt_rd1.imp_right fun h k hk hs => by have := h k hk; have := (Own.ge own6_o hs).1; omega)
              replace h_b15 := U20.get h_b15 (fun h => na_own6_b15 _ h rfl)
              replace h_b19 := U20.get h_b19 (fun h => na_own6_b19 _ h rfl)
              replace hF := hF.go U20 (fun i h hs => by first | exact hs | exact .inl hs | exact .inr hs | (have := (Own.ge own6_o hs).1; omega))
              clear own6_o
              rw [rows_append] at own6
              try simp only [List.nil_append] at own6
              obtain ⟨A20, c20, rfl⟩ := Own.open Gs.encC own6
              first | refine opv_run (add_i64 _ (by omega)) ?_ | refine opv_run (addI _ _ _ _) ?_
              exact ⟨⟨_, _, _, _, (by first | exact congrArg (Value.int .i64) (show _ = ((i + 2 : Nat) : Int) by omega) | exact congrArg (Value.int .i64) (show _ = ((i + m44 : Nat) : Int) by omega)), (by omega), (by first | exact g6 | rfl), (by first | exact Gs.preB_step hinv (Gs.drop_ne (by omega)) (Gs.rb_29 hx5 (by assumption) (show bs[i + 1]? = some x9 by rw [← show ((i : Int) + 1).toNat = i + 1 by omega]; exact hx9)) | exact Gs.preB_step hinv (Gs.drop_ne (by omega)) ((Gs.rb_no hx5 (by assumption)).trans hc1)), (hcw.snoc (by first | exact hc4 | (dsimp only; omega))), (by simp only [List.length_append, List.length_cons, List.length_nil]; omega), own6, rd1, hF⟩, Gs.cnt_up (by first | rfl | exact g7) rfl (by omega) (by omega)⟩
        · refine condf ?_
          refine hJ1 _ _ ?_
          exact ⟨_, _, _, (by first | exact g6 | rfl), (Gs.preB_end hinv (List.drop_eq_nil_of_le (by omega))), hcw, own6, rd1, hF⟩
    · obtain ⟨A6, c6, xs, g6, hfin, hcw, own6, rd1, hF⟩ := hI
      try rw [g6]
      obtain ⟨ya, yb, yc, hya, hyb, hyc⟩ := Gs.bs_3 (bs := bs) (by omega)
      refine drawn_S (S := no) (fun w21 U21 => ?_)
      replace own6 := own6.upd0 U21
      replace rd1 := rd1.upd0 U21
      replace hF := hF.go0 U21
      refine qidx1 (by kernel_rfl) (by kernel_rfl) (fun w' hw' => rd1.upd0 hw') (Fr.refl _ _ _) (by first | rfl | assumption | omega | (simp; done) | (simp [vals_length, *]; done) | (simp [vals_length] at *; omega)) (by omega) (by omega) (fun x22 hx22 => ?_)
      try simp only [Int.toNat_natCast] at hx22
      refine qidx1 (by kernel_rfl) (by kernel_rfl) (fun w' hw' => rd1.upd0 hw') (Fr.refl _ _ _) (by first | rfl | assumption | omega | (simp; done) | (simp [vals_length, *]; done) | (simp [vals_length] at *; omega)) (by omega) (by omega) (fun x23 hx23 => ?_)
      try simp only [Int.toNat_natCast] at hx23
      refine qidx1 (by kernel_rfl) (by kernel_rfl) (fun w' hw' => rd1.upd0 hw') (Fr.refl _ _ _) (by first | rfl | assumption | omega | (simp; done) | (simp [vals_length, *]; done) | (simp [vals_length] at *; omega)) (by omega) (by omega) (fun x24 hx24 => ?_)
      try simp only [Int.toNat_natCast] at hx24
      refine qop_call (fun w' hw' => c_ref02_Decode (hbs.get hx23) (hbs.get hx24)) ?_
      refine ext_intro (fun w26 U26 => ?_)
      replace own6 := own6.upd0 U26
      replace rd1 := rd1.upd0 U26
      replace hF := hF.go0 U26
      first | exact ⟨_, rfl, 0, 0, [], none, 0, by unfold Gs.bufV; rw [Gs.bufF_short (by omega)], by rw [Gs.bufF_short (by omega)]; rfl, Rd.nil _ _, (fun _ h => by cases h), .inl rfl, hF⟩ | exact ⟨_, rfl, 0, 0, [], none, 0, by unfold Gs.bufV; rw [Gs.bufF_3e hya hyb hyc (Gs.preB_err hinv (Gs.drop_ne (by omega)) (Gs.rb_29e hx5 (by assumption) (by omega)))], by rw [Gs.bufF_3e hya hyb hyc (Gs.preB_err hinv (Gs.drop_ne (by omega)) (Gs.rb_29e hx5 (by assumption) (by omega)))]; rfl, Rd.nil _ _, (fun _ h => by cases h), .inl rfl, hF⟩ | exact ⟨_, rfl, 0, 0, [], none, 0, by unfold Gs.bufV; rw [Gs.bufF_3e hya hyb hyc (Gs.preB_err hinv (Gs.drop_ne (by omega)) ((Gs.rb_no hx5 (by assumption)).trans (hc44.resolve_left (fun h => absurd h.1 (by assumption))).2))], by rw [Gs.bufF_3e hya hyb hyc (Gs.preB_err hinv (Gs.drop_ne (by omega)) ((Gs.rb_no hx5 (by assumption)).trans (hc44.resolve_left (fun h => absurd h.1 (by assumption))).2))]; rfl, Rd.nil _ _, (fun _ h => by cases h), .inl rfl, hF⟩ | exact ⟨_, rfl, _, _, xs, A6, c6, by unfold Gs.bufV; rw [Gs.bufF_3 hx22 hx23 hx24 hfin], by rw [Gs.bufF_3 hx22 hx23 hx24 hfin]; rfl, own6.rdS, hcw, .inr (fun k hk => (own6.geb k hk).1), hF⟩

end Go.Proofs.YtkjkmahpkfbbnaaDoor
