/-
  Contracts of functions of the program, walked over their shallow forms. No condition but the ones that each states.
-/
import Derived.Test.YtojcbhkhfcddnaaFd
import Derived.Test.YtojcbhkhfcddnaaPlaneArgs
import Derived.Test.YtojcbhkhfcddnaaFL
namespace Go.Proofs.Ytojcbhkhfcddnaa
open Go Go.Sh
set_option linter.unusedVariables false
set_option maxRecDepth 100000


theorem eqIn_Fld (w : World) {a b : Gs.Fld} : (Op.equalIn 10000 39 (.agg (Gs.fv a).toArray) (.agg (Gs.fv b).toArray)).run Try.prog w = .ok (decide (a = b)) w := by
  have hf : plainF Try.prog ((Try.prog).fieldsOf 39).toList = some [(3, 0), (3, 1), (5, 2)] := by kernel_rfl
  rw [show (10000 : Nat) = 9999 + 1 from rfl, run_equalIn_agg w 9999 39 _ _ (by kernel_rfl) (by kernel_rfl)]
  generalize ((Try.prog).fieldsOf 39).toList = fs0 at hf
  obtain ⟨f0, fs1, rfl⟩ := plain_cons hf
  obtain ⟨hf, e0⟩ := eqF_cons (w := w) (d := 9999) (xs := (Gs.fv a).toArray) (ys := (Gs.fv b).toArray) hf rfl rfl (fun w => run_equalIn_int w 9998 3 .i64 .i64 a.s b.s (by kernel_rfl))
  obtain ⟨f1, fs2, rfl⟩ := plain_cons hf
  obtain ⟨hf, e1⟩ := eqF_cons (w := w) (d := 9999) (xs := (Gs.fv a).toArray) (ys := (Gs.fv b).toArray) hf rfl rfl (fun w => run_equalIn_int w 9998 3 .i64 .i64 a.l b.l (by kernel_rfl))
  obtain ⟨f2, fs3, rfl⟩ := plain_cons hf
  obtain ⟨hf, e2⟩ := eqF_cons (w := w) (d := 9999) (xs := (Gs.fv a).toArray) (ys := (Gs.fv b).toArray) hf rfl rfl (fun w => run_equalIn_int w 9998 5 .u8 .u8 a.a b.a (by kernel_rfl))
  have hn := plain_nil hf; subst hn
  rw [e0]; clear e0
  rw [e1]; clear e1
  rw [e2]; clear e2
  rw [eqF_nil]
  obtain ⟨a1, a2, a3⟩ := a; obtain ⟨b1, b2, b3⟩ := b
  simp only [Gs.Fld.mk.injEq, beq_iff_eq]
  by_cases h1 : a1 = b1 <;> by_cases h2 : a2 = b2 <;> by_cases h3 : a3 = b3 <;> simp [h1, h2, h3]
theorem eq_Fld (q : Bool) {w : World} {a b : Gs.Fld} : (binE q .eql 39 (.agg (Gs.fv a).toArray) (.agg (Gs.fv b).toArray)).run Try.prog w = .ok (.bool (decide (a = b))) w := eqA (by kernel_rfl) fun w => eqIn_Fld w
theorem ne_Fld (q : Bool) {w : World} {a b : Gs.Fld} : (binE q .neq 39 (.agg (Gs.fv a).toArray) (.agg (Gs.fv b).toArray)).run Try.prog w = .ok (.bool (decide (¬ (a = b)))) w := by
  rw [neA (by kernel_rfl) fun w => eqIn_Fld w]; simp

theorem eqIn_Fld15 (w : World) {a b : Gs.Fld} : (Op.equalIn 10000 40 (.agg (Gs.fv a).toArray) (.agg (Gs.fv b).toArray)).run Try.prog w = .ok (decide (a = b)) w := by
  have hf : plainF Try.prog ((Try.prog).fieldsOf 40).toList = some [(3, 0), (3, 1), (5, 2)] := by kernel_rfl
  rw [show (10000 : Nat) = 9999 + 1 from rfl, run_equalIn_agg w 9999 40 _ _ (by kernel_rfl) (by kernel_rfl)]
  generalize ((Try.prog).fieldsOf 40).toList = fs0 at hf
  obtain ⟨f0, fs1, rfl⟩ := plain_cons hf
  obtain ⟨hf, e0⟩ := eqF_cons (w := w) (d := 9999) (xs := (Gs.fv a).toArray) (ys := (Gs.fv b).toArray) hf rfl rfl (fun w => run_equalIn_int w 9998 3 .i64 .i64 a.s b.s (by kernel_rfl))
  obtain ⟨f1, fs2, rfl⟩ := plain_cons hf
  obtain ⟨hf, e1⟩ := eqF_cons (w := w) (d := 9999) (xs := (Gs.fv a).toArray) (ys := (Gs.fv b).toArray) hf rfl rfl (fun w => run_equalIn_int w 9998 3 .i64 .i64 a.l b.l (by kernel_rfl))
  obtain ⟨f2, fs3, rfl⟩ := plain_cons hf
  obtain ⟨hf, e2⟩ := eqF_cons (w := w) (d := 9999) (xs := (Gs.fv a).toArray) (ys := (Gs.fv b).toArray) hf rfl rfl (fun w => run_equalIn_int w 9998 5 .u8 .u8 a.a b.a (by kernel_rfl))
  have hn := plain_nil hf; subst hn
  rw [e0]; clear e0
  rw [e1]; clear e1
  rw [e2]; clear e2
  rw [eqF_nil]
  obtain ⟨a1, a2, a3⟩ := a; obtain ⟨b1, b2, b3⟩ := b
  simp only [Gs.Fld.mk.injEq, beq_iff_eq]
  by_cases h1 : a1 = b1 <;> by_cases h2 : a2 = b2 <;> by_cases h3 : a3 = b3 <;> simp [h1, h2, h3]
theorem eq_Fld15 (q : Bool) {w : World} {a b : Gs.Fld} : (binE q .eql 40 (.agg (Gs.fv a).toArray) (.agg (Gs.fv b).toArray)).run Try.prog w = .ok (.bool (decide (a = b))) w := eqA (by kernel_rfl) fun w => eqIn_Fld15 w
theorem ne_Fld15 (q : Bool) {w : World} {a b : Gs.Fld} : (binE q .neq 40 (.agg (Gs.fv a).toArray) (.agg (Gs.fv b).toArray)).run Try.prog w = .ok (.bool (decide (¬ (a = b)))) w := by
  rw [neA (by kernel_rfl) fun w => eqIn_Fld15 w]; simp

/-- greenscreen/greenscreenref01.SameInts -/
theorem c_ref01_SameInts {cs ds : List Int} {A B : Option Addr} {n1 n2 c1 c2 : Nat} {w : World} (rd1 : Rd w A (vals .i64 cs)) (hn1 : n1 = cs.length) (rd2 : Rd w B (vals .i64 ds)) (hn2 : n2 = ds.length) (hb : n1 ≤ 100000) :
    Calls Try.prog 16 #[.slice A n1 c1, .slice B n2 c2] w fun e w' => e = .returned (.bool (decide (cs = ds))) ∧ Upd no w w' := by
  refine F16.calls ?_
  unfold F16
  have lt_rd1 := Rd.lt rd1
  have lt_rd2 := Rd.lt rd2
  have hF : Upd no w w := Fr.refl _ _ _
  refine opv_run (len_sl (by kernel_rfl) _ _ _) ?_
  refine opv_run (len_sl (by kernel_rfl) _ _ _) ?_
  refine opv_dec (neI _ _ _ _ _) (fun h1 => ?_) (fun h1 => ?_)
  · refine condt ?_
    first | exact ⟨retT (by assumption), hF⟩ | exact ⟨retF (fun he => by subst he; omega), hF⟩ | exact ⟨retF (fun he => by subst he; have := Option.some.inj (hx?.symm.trans hx?); exact absurd this (by assumption)), hF⟩
  · refine condf ?_
    refine join_cut (fun g w' => (cs = ds) ∧ (Upd no w w')) (fun J1 hJ1 => ?_) (fun gJ1 wJ1 hI => ?_)
    · refine loop_intro (fun g w' => ∃ (k : Nat), (g 5 = .int .i64 (k : Int)) ∧ (k ≤ cs.length) ∧ (cs.take k = ds.take k) ∧ (Rd w' A (vals .i64 cs)) ∧ (Rd w' B (vals .i64 ds)) ∧ (Upd no w w')) (fun g w' => cs.length - (RowKit.intOf (g 5)).toNat) ?_ (fun g2 wl2 hI => ?_)
      · exact ⟨0, (by first | exact g5 | rfl), Nat.zero_le _, rfl, rd1, rd2, hF⟩
      · obtain ⟨k, g5, hk, hall, rd1, rd2, hF⟩ := hI
        try rw [g5]
        refine opv_run (len_sl (by kernel_rfl) _ _ _) ?_
        refine opv_dec (lss _ _ _ _) (fun h3 => ?_) (fun h3 => ?_)
        · refine condt ?_
          refine drawn_S (S := no) (fun w4 U4 => ?_)
          replace rd1 := rd1.upd0 U4
          replace rd2 := rd2.upd0 U4
          replace hF := hF.go0 U4
          refine qidx1 (by kernel_rfl) (by kernel_rfl) (fun w' hw' => rd1.upd0 hw') (Fr.refl _ _ _) (by first | rfl | assumption | omega | (simp; done) | (simp [vals_length, *]; done) | (simp [vals_length] at *; omega)) (by omega) (by omega) (fun x5 hx5 => ?_)
          try simp only [Int.toNat_natCast] at hx5
          refine qidx1 (by kernel_rfl) (by kernel_rfl) (fun w' hw' => rd2.upd0 hw') (Fr.refl _ _ _) (by first | rfl | assumption | omega | (simp; done) | (simp [vals_length, *]; done) | (simp [vals_length] at *; omega)) (by omega) (by omega) (fun x6 hx6 => ?_)
          try simp only [Int.toNat_natCast] at hx6
          refine qop_dec (fun w' hw' => (neI _ _ _ _ _)) (fun h7 => ?_) (fun h7 => ?_)
          · refine ext_intro (fun w8 U8 => ?_)
            replace rd1 := rd1.upd0 U8
            replace rd2 := rd2.upd0 U8
            replace hF := hF.go0 U8
            refine condt ?_
            first | exact ⟨retT (by assumption), hF⟩ | exact ⟨retF (fun he => by subst he; omega), hF⟩ | exact ⟨retF (fun he => by subst he; have := Option.some.inj (hx5.symm.trans hx6); exact absurd this (by assumption)), hF⟩
          · refine ext_intro (fun w10 U10 => ?_)
            replace rd1 := rd1.upd0 U10
            replace rd2 := rd2.upd0 U10
            replace hF := hF.go0 U10
            refine condf ?_
            first | refine opv_run (add_i64 _ (by omega)) ?_ | refine opv_run (addI _ _ _ _) ?_
            exact ⟨⟨k + 1, (by first | exact g5 | rfl), by omega, (take_same hall hx5 hx6 (by by_cases hq : x5 = x6; exact hq; contradiction)), rd1, rd2, hF⟩, cnt_lt (by first | rfl | exact g5) rfl (by omega)⟩
        · refine condf ?_
          refine hJ1 _ _ ?_
          exact ⟨(take_all hall (by omega) (by omega)), hF⟩
    · obtain ⟨hall, hF⟩ := hI
      first | exact ⟨retT (by assumption), hF⟩ | exact ⟨retF (fun he => by subst he; omega), hF⟩ | exact ⟨retF (fun he => by subst he; have := Option.some.inj (hx5.symm.trans hx6); exact absurd this (by assumption)), hF⟩

/-- greenscreen/greenscreenref01.Same -/
theorem c_ref01_Same {cs ds : List Int} {A B : Option Addr} {n1 n2 c1 c2 : Nat} {w : World} (rd1 : Rd w A (vals .u8 cs)) (hn1 : n1 = cs.length) (rd2 : Rd w B (vals .u8 ds)) (hn2 : n2 = ds.length) (hb : n1 ≤ 100000) :
    Calls Try.prog 18 #[.slice A n1 c1, .slice B n2 c2] w fun e w' => e = .returned (.bool (decide (cs = ds))) ∧ Upd no w w' := by
  refine F18.calls ?_
  unfold F18
  have lt_rd1 := Rd.lt rd1
  have lt_rd2 := Rd.lt rd2
  have hF : Upd no w w := Fr.refl _ _ _
  refine opv_run (len_sl (by kernel_rfl) _ _ _) ?_
  refine opv_run (len_sl (by kernel_rfl) _ _ _) ?_
  refine opv_dec (neI _ _ _ _ _) (fun h1 => ?_) (fun h1 => ?_)
  · refine condt ?_
    first | exact ⟨retT (by assumption), hF⟩ | exact ⟨retF (fun he => by subst he; omega), hF⟩ | exact ⟨retF (fun he => by subst he; have := Option.some.inj (hx?.symm.trans hx?); exact absurd this (by assumption)), hF⟩
  · refine condf ?_
    refine join_cut (fun g w' => (cs = ds) ∧ (Upd no w w')) (fun J1 hJ1 => ?_) (fun gJ1 wJ1 hI => ?_)
    · refine loop_intro (fun g w' => ∃ (k : Nat), (g 5 = .int .i64 (k : Int)) ∧ (k ≤ cs.length) ∧ (cs.take k = ds.take k) ∧ (Rd w' A (vals .u8 cs)) ∧ (Rd w' B (vals .u8 ds)) ∧ (Upd no w w')) (fun g w' => cs.length - (RowKit.intOf (g 5)).toNat) ?_ (fun g2 wl2 hI => ?_)
      · exact ⟨0, (by first | exact g5 | rfl), Nat.zero_le _, rfl, rd1, rd2, hF⟩
      · obtain ⟨k, g5, hk, hall, rd1, rd2, hF⟩ := hI
        try rw [g5]
        refine opv_run (len_sl (by kernel_rfl) _ _ _) ?_
        refine opv_dec (lss _ _ _ _) (fun h3 => ?_) (fun h3 => ?_)
        · refine condt ?_
          refine drawn_S (S := no) (fun w4 U4 => ?_)
          replace rd1 := rd1.upd0 U4
          replace rd2 := rd2.upd0 U4
          replace hF := hF.go0 U4
          refine qidx1 (by kernel_rfl) (by kernel_rfl) (fun w' hw' => rd1.upd0 hw') (Fr.refl _ _ _) (by first | rfl | assumption | omega | (simp; done) | (simp [vals_length, *]; done) | (simp [vals_length] at *; omega)) (by omega) (by omega) (fun x5 hx5 => ?_)
          try simp only [Int.toNat_natCast] at hx5
          refine qidx1 (by kernel_rfl) (by kernel_rfl) (fun w' hw' => rd2.upd0 hw') (Fr.refl _ _ _) (by first | rfl | assumption | omega | (simp; done) | (simp [vals_length, *]; done) | (simp [vals_length] at *; omega)) (by omega) (by omega) (fun x6 hx6 => ?_)
          try simp only [Int.toNat_natCast] at hx6
          refine qop_dec (fun w' hw' => (neI _ _ _ _ _)) (fun h7 => ?_) (fun h7 => ?_)
          · refine ext_intro (fun w8 U8 => ?_)
            replace rd1 := rd1.upd0 U8
            replace rd2 := rd2.upd0 U8
            replace hF := hF.go0 U8
            refine condt ?_
            first | exact ⟨retT (by assumption), hF⟩ | exact ⟨retF (fun he => by subst he; omega), hF⟩ | exact ⟨retF (fun he => by subst he; have := Option.some.inj (hx5.symm.trans hx6); exact absurd this (by assumption)), hF⟩
          · refine ext_intro (fun w10 U10 => ?_)
            replace rd1 := rd1.upd0 U10
            replace rd2 := rd2.upd0 U10
            replace hF := hF.go0 U10
            refine condf ?_
            first | refine opv_run (add_i64 _ (by omega)) ?_ | refine opv_run (addI _ _ _ _) ?_
            exact ⟨⟨k + 1, (by first | exact g5 | rfl), by omega, (take_same hall hx5 hx6 (by by_cases hq : x5 = x6; exact hq; contradiction)), rd1, rd2, hF⟩, cnt_lt (by first | rfl | exact g5) rfl (by omega)⟩
        · refine condf ?_
          refine hJ1 _ _ ?_
          exact ⟨(take_all hall (by omega) (by omega)), hF⟩
    · obtain ⟨hall, hF⟩ := hI
      first | exact ⟨retT (by assumption), hF⟩ | exact ⟨retF (fun he => by subst he; omega), hF⟩ | exact ⟨retF (fun he => by subst he; have := Option.some.inj (hx5.symm.trans hx6); exact absurd this (by assumption)), hF⟩

/-- greenscreen/greenscreenlaw15.made -/
theorem c_made_0 {r c : Int} {A : Option Addr} {n cp : Nat} {cs : List Gs.Cell} {w : World} (rd1 : Rd w A (rows Gs.cv cs)) (hn : n = cs.length) (hnm : n ≤ 9223372036854775807) (hz : Gs.cellsN r c = 0) :
    Calls Try.prog 9 #[.agg #[.int .i64 r, .int .i64 c], .slice A n cp] w fun e w' => ∃ v, e = .returned v ∧ ∃ (x1 x2 x3 : Int) (x4 : Option Addr) (x5 x6 : Nat), v = .tuple #[.pointer none, .agg #[.int .i64 x1, .int .i64 x2, .slice x4 x5 x6, .int .i64 x3], .bool false] ∧ Upd no w w' := by
  refine F9.calls ?_
  unfold F9
  have lt_rd1 := Rd.lt rd1
  have hF : Upd no w w := Fr.refl _ _ _
  refine box_intro (by rfl) (fun b1 w1 e1 h_b1 _ U1 => ?_)
  have na_rd1_b1 := rd1.apart e1
  have ge_b1 : w.heap.size ≤ b1 := by have := hF.size; omega
  replace rd1 := rd1.upd0 U1
  replace hF := hF.go0 U1
  clear e1
  refine alloc_intro (cs := #[.int .i64 0, .int .i64 0, .slice none 0 0, .int .i64 0]) (by kernel_rfl) (fun b2 w2 e2 h_b2 _ U2 => ?_)
  have na_rd1_b2 := rd1.apart e2
  have ne_b1_b2 : b1 ≠ b2 := by have := lt_get h_b1; omega
  have ge_b2 : w.heap.size ≤ b2 := by have := hF.size; omega
  replace rd1 := rd1.upd0 U2
  replace h_b1 := U2.get0 h_b1
  replace hF := hF.go0 U2
  clear e2
  refine opv_run (ldA (n := 2) (by kernel_rfl) h_b1 (by first | exact Nat.le_of_ble_eq_true rfl | (simp; done) | omega) (by rfl)) ?_
  refine callF_val (c_ref14_New0 hz) (fun w3 U3 => ?_)
  replace rd1 := rd1.upd0 U3
  replace h_b1 := U3.get0 h_b1
  replace h_b2 := U3.get0 h_b2
  replace hF := hF.go0 U3
  refine opv_run (ext_t (by rfl)) ?_
  refine opv_run (ext_t (by rfl)) ?_
  refine alloc_intro (cs := #[.int .i64 0, .int .i64 0, .slice none 0 0, .int .i64 0]) (by kernel_rfl) (fun b4 w4 e4 h_b4 _ U4 => ?_)
  have na_rd1_b4 := rd1.apart e4
  have ne_b1_b4 : b1 ≠ b4 := by have := lt_get h_b1; omega
  have ne_b2_b4 : b2 ≠ b4 := by have := lt_get h_b2; omega
  have ge_b4 : w.heap.size ≤ b4 := by have := hF.size; omega
  replace rd1 := rd1.upd0 U4
  replace h_b1 := U4.get0 h_b1
  replace h_b2 := U4.get0 h_b2
  replace hF := hF.go0 U4
  clear e4
  refine store_intro (n := 4) (by kernel_rfl) (by rfl) (by first | rfl | (simp [Value.cells, Value.oneCell', Gs.cv, Gs.fv]; done)) h_b4 (by first | exact Nat.le_of_ble_eq_true rfl | (simp; done) | omega) (by first | (simp; rfl) | rfl) (fun w5 N5 _ U5 => ?_)
  replace rd1 := rd1.upd1 U5 na_rd1_b4
  replace h_b1 := U5.get1 h_b1 ne_b1_b4
  replace h_b2 := U5.get1 h_b2 ne_b2_b4
  replace h_b4 := N5
  replace hF := hF.go1 U5 ge_b4
  refine opv_T (neI _ _ _ _ _) (by decide) ?_
  refine gdtf ?_
  refine gdtf ?_
  refine gdtf ?_
  refine gdtf ?_
  refine pickt ?_
  refine condt ?_
  refine drawn_S (S := no) (fun w6 U6 => ?_)
  replace rd1 := rd1.upd0 U6
  replace h_b1 := U6.get0 h_b1
  replace h_b2 := U6.get0 h_b2
  replace h_b4 := U6.get0 h_b4
  replace hF := hF.go0 U6
  refine qop_run (fun w' hw' => by have h_b4 := hw'.get0 h_b4; exact (ldA (n := 4) (by kernel_rfl) h_b4 (by first | exact Nat.le_of_ble_eq_true rfl | (simp; done) | omega) (by rfl))) ?_
  refine ext_intro (fun w7 U7 => ?_)
  replace rd1 := rd1.upd0 U7
  replace h_b1 := U7.get0 h_b1
  replace h_b2 := U7.get0 h_b2
  replace h_b4 := U7.get0 h_b4
  replace hF := hF.go0 U7
  refine store_intro (n := 4) (by kernel_rfl) (by rfl) (by first | rfl | (simp [Value.cells, Value.oneCell', Gs.cv, Gs.fv]; done)) h_b2 (by first | exact Nat.le_of_ble_eq_true rfl | (simp; done) | omega) (by first | (simp; rfl) | rfl) (fun w8 N8 _ U8 => ?_)
  replace rd1 := rd1.upd1 U8 na_rd1_b2
  replace h_b1 := U8.get1 h_b1 ne_b1_b2
  replace h_b4 := U8.get1 h_b4 (Ne.symm ne_b2_b4)
  replace h_b2 := N8
  replace hF := hF.go1 U8 ge_b2
  refine ext_intro (fun w9 U9 => ?_)
  replace rd1 := rd1.upd0 U9
  replace h_b1 := U9.get0 h_b1
  replace h_b2 := U9.get0 h_b2
  replace h_b4 := U9.get0 h_b4
  replace hF := hF.go0 U9
  refine ldv_run (ldA (n := 4) (by kernel_rfl) h_b2 (by first | exact Nat.le_of_ble_eq_true rfl | simp | omega) (by rfl)) ?_
  exact ⟨_, rfl, _, _, _, _, _, _, rfl, hF⟩

/-- greenscreen/greenscreenlaw15.made -/
theorem c_made_big {r c : Int} {A : Option Addr} {n cp : Nat} {N : Nat} {cs : List Gs.Cell} {w : World} (rd1 : Rd w A (rows Gs.cv cs)) (hn : n = cs.length) (hnm : n ≤ 9223372036854775807) (hN : Gs.cellsN r c = N) (hz : 120 < N) :
    Calls Try.prog 9 #[.agg #[.int .i64 r, .int .i64 c], .slice A n cp] w fun e w' => ∃ v, e = .returned v ∧ ∃ (x1 x2 x3 : Int) (x4 : Option Addr) (x5 x6 : Nat), v = .tuple #[.pointer none, .agg #[.int .i64 x1, .int .i64 x2, .slice x4 x5 x6, .int .i64 x3], .bool false] ∧ Upd no w w' := by
  refine F9.calls ?_
  unfold F9
  have lt_rd1 := Rd.lt rd1
  have hF : Upd no w w := Fr.refl _ _ _
  refine box_intro (by rfl) (fun b1 w1 e1 h_b1 _ U1 => ?_)
  have na_rd1_b1 := rd1.apart e1
  have ge_b1 : w.heap.size ≤ b1 := by have := hF.size; omega
  replace rd1 := rd1.upd0 U1
  replace hF := hF.go0 U1
  clear e1
  refine alloc_intro (cs := #[.int .i64 0, .int .i64 0, .slice none 0 0, .int .i64 0]) (by kernel_rfl) (fun b2 w2 e2 h_b2 _ U2 => ?_)
  have na_rd1_b2 := rd1.apart e2
  have ne_b1_b2 : b1 ≠ b2 := by have := lt_get h_b1; omega
  have ge_b2 : w.heap.size ≤ b2 := by have := hF.size; omega
  replace rd1 := rd1.upd0 U2
  replace h_b1 := U2.get0 h_b1
  replace hF := hF.go0 U2
  clear e2
  refine opv_run (ldA (n := 2) (by kernel_rfl) h_b1 (by first | exact Nat.le_of_ble_eq_true rfl | (simp; done) | omega) (by rfl)) ?_
  refine callF_ex (c_ref14_New1 (r := r) (c := c) (by omega)) (fun v3 w3 D3 => ?_)
  obtain ⟨gx, rfl, own_x, U3⟩ := D3
  rw [show (Gs.cellsN r c).toNat = N by omega] at own_x
  have nx3_rd1_own_x : _ ∨ ∀ k, blkOf _ k → ¬ ownS _ k := (Rd.lt rd1).imp_right fun h k hk hs => by have := h k hk; have := (Own.ge own_x hs).1; omega
  have nx3_h_b1_own_x : ¬ ownS _ b1 := fun h => by have := (Own.ge own_x h).1; have := lt_get h_b1; omega
  have nx3_h_b2_own_x : ¬ ownS _ b2 := fun h => by have := (Own.ge own_x h).1; have := lt_get h_b2; omega
  replace own_x := own_x.mono (B' := w.heap.size) hF.size
  replace rd1 := rd1.upd0 U3
  replace h_b1 := U3.get0 h_b1
  replace h_b2 := U3.get0 h_b2
  replace hF := hF.go0 U3
  rw [show (Gs.cellsN r c).toNat = N by omega]
  refine opv_run (ext_t (by rfl)) ?_
  refine opv_run (ext_t (by rfl)) ?_
  refine alloc_intro (cs := #[.int .i64 0, .int .i64 0, .slice none 0 0, .int .i64 0]) (by kernel_rfl) (fun b4 w4 e4 h_b4 _ U4 => ?_)
  have na_rd1_b4 := rd1.apart e4
  have ne_b1_b4 : b1 ≠ b4 := by have := lt_get h_b1; omega
  have ne_b2_b4 : b2 ≠ b4 := by have := lt_get h_b2; omega
  have na_own_x_b4 := own_x.apart e4
  have ge_b4 : w.heap.size ≤ b4 := by have := hF.size; omega
  replace rd1 := rd1.upd0 U4
  replace own_x := own_x.upd0 U4
  replace h_b1 := U4.get0 h_b1
  replace h_b2 := U4.get0 h_b2
  replace hF := hF.go0 U4
  clear e4
  refine store_intro (n := 4) (by kernel_rfl) (by rfl) (by first | rfl | (simp [Value.cells, Value.oneCell', Gs.cv, Gs.fv]; done)) h_b4 (by first | exact Nat.le_of_ble_eq_true rfl | (simp; done) | omega) (by first | (simp; rfl) | rfl) (fun w5 N5 _ U5 => ?_)
  replace rd1 := rd1.upd1 U5 na_rd1_b4
  replace own_x := own_x.upd1 U5 na_own_x_b4
  replace h_b1 := U5.get1 h_b1 ne_b1_b4
  replace h_b2 := U5.get1 h_b2 ne_b2_b4
  replace h_b4 := N5
  replace hF := hF.go1 U5 ge_b4
  refine opv_F (neI _ _ _ _ _) (by decide) ?_
  refine gdff ?_
  refine opv_run (fieldAt_eq (off := 2) (by kernel_rfl)) ?_
  refine gdff ?_
  refine opv_run (ldC (by kernel_rfl) h_b4 (by rfl)) ?_
  refine gdff ?_
  refine opv_run (len_sl (by kernel_rfl) _ _ _) ?_
  refine gdff ?_
  refine opv_T (gtr _ _ _ _) (by omega) ?_
  refine pickf ?_
  refine condt ?_
  refine drawn_S (S := no) (fun w6 U6 => ?_)
  replace rd1 := rd1.upd0 U6
  replace own_x := own_x.upd0 U6
  replace h_b1 := U6.get0 h_b1
  replace h_b2 := U6.get0 h_b2
  replace h_b4 := U6.get0 h_b4
  replace hF := hF.go0 U6
  refine qop_run (fun w' hw' => by have h_b4 := hw'.get0 h_b4; exact (ldA (n := 4) (by kernel_rfl) h_b4 (by first | exact Nat.le_of_ble_eq_true rfl | (simp; done) | omega) (by rfl))) ?_
  refine ext_intro (fun w7 U7 => ?_)
  replace rd1 := rd1.upd0 U7
  replace own_x := own_x.upd0 U7
  replace h_b1 := U7.get0 h_b1
  replace h_b2 := U7.get0 h_b2
  replace h_b4 := U7.get0 h_b4
  replace hF := hF.go0 U7
  refine store_intro (n := 4) (by kernel_rfl) (by rfl) (by first | rfl | (simp [Value.cells, Value.oneCell', Gs.cv, Gs.fv]; done)) h_b2 (by first | exact Nat.le_of_ble_eq_true rfl | (simp; done) | omega) (by first | (simp; rfl) | rfl) (fun w8 N8 _ U8 => ?_)
  replace rd1 := rd1.upd1 U8 na_rd1_b2
  replace own_x := own_x.upd1 U8 (by first | assumption | exact Own.ne_blk own_x (by assumption) (by decide) | exact Own.not_loop own_x (by assumption) (by assumption) | exact Own.not_def own_x (by assumption) | exact Own.not_loop own_x (by assumption) (lp3 _))
  replace h_b1 := U8.get1 h_b1 ne_b1_b2
  replace h_b4 := U8.get1 h_b4 (Ne.symm ne_b2_b4)
  replace h_b2 := N8
  replace hF := hF.go1 U8 ge_b2
  refine ext_intro (fun w9 U9 => ?_)
  replace rd1 := rd1.upd0 U9
  replace own_x := own_x.upd0 U9
  replace h_b1 := U9.get0 h_b1
  replace h_b2 := U9.get0 h_b2
  replace h_b4 := U9.get0 h_b4
  replace hF := hF.go0 U9
  refine ldv_run (ldA (n := 4) (by kernel_rfl) h_b2 (by first | exact Nat.le_of_ble_eq_true rfl | simp | omega) (by rfl)) ?_
  exact ⟨_, rfl, _, _, _, _, _, _, rfl, hF⟩

/-- greenscreen/greenscreenlaw15.made -/
theorem c_made_ok {r c : Int} {A : Option Addr} {n cp : Nat} {N : Nat} {cs : List Gs.Cell} {w : World} (rd1 : Rd w A (rows Gs.cv cs)) (hn : n = cs.length) (hnm : n ≤ 9223372036854775807) (hN : Gs.cellsN r c = N) (hz : N ≠ 0) (hz2 : N ≤ 120) :
    Calls Try.prog 9 #[.agg #[.int .i64 r, .int .i64 c], .slice A n cp] w fun e w' => ∃ v, e = .returned v ∧ ∃ bp gp gx, v = .tuple #[.pointer (some ⟨bp, 0, none⟩), .agg #[.int .i64 r, .int .i64 c, .slice (some ⟨gx, 0, none⟩) N N, .int .i64 0], .bool true] ∧ w.heap.size ≤ bp ∧ w'.heap[bp]? = some (.cells #[.int .i64 r, .int .i64 c, .slice (some ⟨gp, 0, none⟩) N N, .int .i64 0] 102 (0, 0)) ∧ Own w.heap.size w' 45 5 (.slice (some ⟨gp, 0, none⟩) N N) (rows Gs.cv (Gs.madeK N cs cs.length)) ∧ Own w.heap.size w' 45 5 (.slice (some ⟨gx, 0, none⟩) N N) (rows Gs.cv (Gs.madeK N cs cs.length)) ∧ gp ≠ gx ∧ Upd no w w' := by
  refine F9.calls ?_
  unfold F9
  subst hn
  have lt_rd1 := Rd.lt rd1
  have hF : Upd no w w := Fr.refl _ _ _
  refine box_intro (by rfl) (fun b1 w1 e1 h_b1 _ U1 => ?_)
  have na_rd1_b1 := rd1.apart e1
  have ge_b1 : w.heap.size ≤ b1 := by have := hF.size; omega
  replace rd1 := rd1.upd0 U1
  replace hF := hF.go0 U1
  clear e1
  refine alloc_intro (cs := #[.int .i64 0, .int .i64 0, .slice none 0 0, .int .i64 0]) (by kernel_rfl) (fun b2 w2 e2 h_b2 _ U2 => ?_)
  have na_rd1_b2 := rd1.apart e2
  have ne_b1_b2 : b1 ≠ b2 := by have := lt_get h_b1; omega
  have ge_b2 : w.heap.size ≤ b2 := by have := hF.size; omega
  replace rd1 := rd1.upd0 U2
  replace h_b1 := U2.get0 h_b1
  replace hF := hF.go0 U2
  clear e2
  refine opv_run (ldA (n := 2) (by kernel_rfl) h_b1 (by first | exact Nat.le_of_ble_eq_true rfl | (simp; done) | omega) (by rfl)) ?_
  refine callF_ex (c_ref14_New1 (r := r) (c := c) (by omega)) (fun v3 w3 D3 => ?_)
  obtain ⟨gx, rfl, own_x, U3⟩ := D3
  rw [show (Gs.cellsN r c).toNat = N by omega] at own_x
  have nx3_rd1_own_x : _ ∨ ∀ k, blkOf _ k → ¬ ownS _ k := (Rd.lt rd1).imp_right fun h k hk hs => by have := h k hk; have := (Own.ge own_x hs).1; omega
  have nx3_h_b1_own_x : ¬ ownS _ b1 := fun h => by have := (Own.ge own_x h).1; have := lt_get h_b1; omega
  have nx3_h_b2_own_x : ¬ ownS _ b2 := fun h => by have := (Own.ge own_x h).1; have := lt_get h_b2; omega
  replace own_x := own_x.mono (B' := w.heap.size) hF.size
  replace rd1 := rd1.upd0 U3
  replace h_b1 := U3.get0 h_b1
  replace h_b2 := U3.get0 h_b2
  replace hF := hF.go0 U3
  rw [show (Gs.cellsN r c).toNat = N by omega]
  refine opv_run (ext_t (by rfl)) ?_
  refine opv_run (ext_t (by rfl)) ?_
  refine alloc_intro (cs := #[.int .i64 0, .int .i64 0, .slice none 0 0, .int .i64 0]) (by kernel_rfl) (fun b4 w4 e4 h_b4 _ U4 => ?_)
  have na_rd1_b4 := rd1.apart e4
  have ne_b1_b4 : b1 ≠ b4 := by have := lt_get h_b1; omega
  have ne_b2_b4 : b2 ≠ b4 := by have := lt_get h_b2; omega
  have na_own_x_b4 := own_x.apart e4
  have ge_b4 : w.heap.size ≤ b4 := by have := hF.size; omega
  replace rd1 := rd1.upd0 U4
  replace own_x := own_x.upd0 U4
  replace h_b1 := U4.get0 h_b1
  replace h_b2 := U4.get0 h_b2
  replace hF := hF.go0 U4
  clear e4
  refine store_intro (n := 4) (by kernel_rfl) (by rfl) (by first | rfl | (simp [Value.cells, Value.oneCell', Gs.cv, Gs.fv]; done)) h_b4 (by first | exact Nat.le_of_ble_eq_true rfl | (simp; done) | omega) (by first | (simp; rfl) | rfl) (fun w5 N5 _ U5 => ?_)
  replace rd1 := rd1.upd1 U5 na_rd1_b4
  replace own_x := own_x.upd1 U5 na_own_x_b4
  replace h_b1 := U5.get1 h_b1 ne_b1_b4
  replace h_b2 := U5.get1 h_b2 ne_b2_b4
  replace h_b4 := N5
  replace hF := hF.go1 U5 ge_b4
  refine opv_F (neI _ _ _ _ _) (by decide) ?_
  refine gdff ?_
  refine opv_run (fieldAt_eq (off := 2) (by kernel_rfl)) ?_
  refine gdff ?_
  refine opv_run (ldC (by kernel_rfl) h_b4 (by rfl)) ?_
  refine gdff ?_
  refine opv_run (len_sl (by kernel_rfl) _ _ _) ?_
  refine gdff ?_
  refine opv_F (gtr _ _ _ _) (by omega) ?_
  refine pickf ?_
  refine condf ?_
  refine opv_run (ldA (n := 2) (by kernel_rfl) h_b1 (by first | exact Nat.le_of_ble_eq_true rfl | (simp; done) | omega) (by rfl)) ?_
  refine callF_ex (c_plane_New1 (r := r) (c := c) (by omega)) (fun v6 w6 D6 => ?_)
  obtain ⟨bp, gp, rfl, gbp, h_bp, own_p, U6⟩ := D6
  rw [show (Gs.cellsN r c).toNat = N by omega] at h_bp own_p
  have na_rd1_bp := (Rd.lt rd1).ne (b := bp) (by omega)
  have ne_b1_bp : b1 ≠ bp := by have := lt_get h_b1; omega
  have ne_b2_bp : b2 ≠ bp := by have := lt_get h_b2; omega
  have na_own_x_bp : ∀ k, ownS _ k → k ≠ bp := fun k hk => by have := (Own.ge own_x hk).2; omega
  have ne_b4_bp : b4 ≠ bp := by have := lt_get h_b4; omega
  have ge_bp : w.heap.size ≤ bp := by have := hF.size; omega
  have nx6_rd1_own_p : _ ∨ ∀ k, blkOf _ k → ¬ ownS _ k := (Rd.lt rd1).imp_right fun h k hk hs => by have := h k hk; have := (Own.ge own_p hs).1; omega
  have nx6_h_b1_own_p : ¬ ownS _ b1 := fun h => by have := (Own.ge own_p h).1; have := lt_get h_b1; omega
  have nx6_h_b2_own_p : ¬ ownS _ b2 := fun h => by have := (Own.ge own_p h).1; have := lt_get h_b2; omega
  have nx6_own_x_own_p : ∀ k, ownS _ k → ¬ ownS _ k := fun k hk hs => by have := (Own.ge own_x hk).2; have := (Own.ge own_p hs).1; omega
  have nx6_h_b4_own_p : ¬ ownS _ b4 := fun h => by have := (Own.ge own_p h).1; have := lt_get h_b4; omega
  replace own_p := own_p.mono (B' := w.heap.size) hF.size
  replace rd1 := rd1.upd0 U6
  replace own_x := own_x.upd0 U6
  replace h_b1 := U6.get0 h_b1
  replace h_b2 := U6.get0 h_b2
  replace h_b4 := U6.get0 h_b4
  replace hF := hF.go0 U6
  refine opv_run (ext_t (by rfl)) ?_
  refine opv_run (ext_t (by rfl)) ?_
  refine join_cut (fun g w' => (Own w.heap.size w' 45 5 (.slice (some ⟨gp, 0, none⟩) N N) (rows Gs.cv (Gs.madeK N cs cs.length))) ∧ (Own w.heap.size w' 45 5 (.slice (some ⟨gx, 0, none⟩) N N) (rows Gs.cv (Gs.madeK N cs cs.length))) ∧ (w'.heap[bp]? = some (.cells #[.int .i64 r, .int .i64 c, .slice (some ⟨gp, 0, none⟩) N N, .int .i64 0] 102 (0, 0))) ∧ (w'.heap[b4]? = some (.cells #[.int .i64 r, .int .i64 c, .slice (some ⟨gx, 0, none⟩) N N, .int .i64 0] 28 (0, 0))) ∧ (w'.heap[b2]? = some (.cells #[.int .i64 0, .int .i64 0, .slice none 0 0, .int .i64 0] 28 (0, 0))) ∧ (Rd w' A (rows Gs.cv cs)) ∧ (Upd no w w')) (fun J1 hJ1 => ?_) (fun gJ1 wJ1 hI => ?_)
  · refine opv_run (len_sl (by kernel_rfl) _ _ _) ?_
    refine loop_intro (fun g w' => ∃ (k : Nat), (g 34 = .int .i64 (k : Int)) ∧ (k ≤ cs.length) ∧ (Own w.heap.size w' 45 5 (.slice (some ⟨gp, 0, none⟩) N N) (rows Gs.cv (Gs.madeK N cs k))) ∧ (Own w.heap.size w' 45 5 (.slice (some ⟨gx, 0, none⟩) N N) (rows Gs.cv (Gs.madeK N cs k))) ∧ (w'.heap[bp]? = some (.cells #[.int .i64 r, .int .i64 c, .slice (some ⟨gp, 0, none⟩) N N, .int .i64 0] 102 (0, 0))) ∧ (w'.heap[b4]? = some (.cells #[.int .i64 r, .int .i64 c, .slice (some ⟨gx, 0, none⟩) N N, .int .i64 0] 28 (0, 0))) ∧ (w'.heap[b2]? = some (.cells #[.int .i64 0, .int .i64 0, .slice none 0 0, .int .i64 0] 28 (0, 0))) ∧ (Rd w' A (rows Gs.cv cs)) ∧ (Upd no w w')) (fun g w' => cs.length - (RowKit.intOf (g 34)).toNat) ?_ (fun g2 wl2 hI => ?_)
    · exact ⟨0, (by first | exact g34 | rfl), Nat.zero_le _, (by rw [Gs.made_0]; exact own_p), (by rw [Gs.made_0]; exact own_x), h_bp, h_b4, h_b2, rd1, hF⟩
    · obtain ⟨k, g34, hk, own_p, own_x, h_bp, h_b4, h_b2, rd1, hF⟩ := hI
      try rw [g34]
      have hml := Gs.made_len N cs k
      refine opv_dec (lss _ _ _ _) (fun h7 => ?_) (fun h7 => ?_)
      · refine condt ?_
        refine join_cut (fun g w' => (Own w.heap.size w' 45 5 (.slice (some ⟨gp, 0, none⟩) N N) (rows Gs.cv (Gs.madeK N cs (k + 1)))) ∧ (Own w.heap.size w' 45 5 (.slice (some ⟨gx, 0, none⟩) N N) (rows Gs.cv (Gs.madeK N cs (k + 1)))) ∧ (w'.heap[bp]? = some (.cells #[.int .i64 r, .int .i64 c, .slice (some ⟨gp, 0, none⟩) N N, .int .i64 0] 102 (0, 0))) ∧ (w'.heap[b4]? = some (.cells #[.int .i64 r, .int .i64 c, .slice (some ⟨gx, 0, none⟩) N N, .int .i64 0] 28 (0, 0))) ∧ (w'.heap[b2]? = some (.cells #[.int .i64 0, .int .i64 0, .slice none 0 0, .int .i64 0] 28 (0, 0))) ∧ (Rd w' A (rows Gs.cv cs)) ∧ (Upd no w w')) (fun J3 hJ3 => ?_) (fun gJ3 wJ3 hI => ?_)
        · refine idx_rows Gs.encC (by kernel_rfl) (by kernel_rfl) rd1 (by first | rfl | assumption | omega) (by omega) (by omega) (fun x8 hx8 => ?_)
          try simp only [Int.toNat_natCast] at hx8
          refine alloc_intro (cs := (Gs.cv Gs.zc).toArray) (by kernel_rfl) (fun b9 w9 e9 h_b9 _ U9 => ?_)
          have na_own_p_b9 := own_p.apart e9
          have na_own_x_b9 := own_x.apart e9
          have ne_bp_b9 : bp ≠ b9 := by have := lt_get h_bp; omega
          have ne_b4_b9 : b4 ≠ b9 := by have := lt_get h_b4; omega
          have ne_b2_b9 : b2 ≠ b9 := by have := lt_get h_b2; omega
          have na_rd1_b9 := rd1.apart e9
          have ge_b9 : w.heap.size ≤ b9 := by have := hF.size; omega
          replace own_p := own_p.upd0 U9
          replace own_x := own_x.upd0 U9
          replace rd1 := rd1.upd0 U9
          replace h_bp := U9.get0 h_bp
          replace h_b4 := U9.get0 h_b4
          replace h_b2 := U9.get0 h_b2
          replace hF := hF.go0 U9
          clear e9
          refine store_intro (n := 5) (cs' := (Gs.cv x8).toArray) (by kernel_rfl) (by rfl) (by first | rfl | (simp [Value.cells, Value.oneCell', Gs.cv, Gs.fv]; done)) h_b9 (by first | exact Nat.le_of_ble_eq_true rfl | (simp; done) | omega) (by rfl) (fun w10 N10 _ U10 => ?_)
          replace own_p := own_p.upd1 U10 na_own_p_b9
          replace own_x := own_x.upd1 U10 na_own_x_b9
          replace rd1 := rd1.upd1 U10 na_rd1_b9
          replace h_bp := U10.get1 h_bp ne_bp_b9
          replace h_b4 := U10.get1 h_b4 ne_b4_b9
          replace h_b2 := U10.get1 h_b2 ne_b2_b9
          replace h_b9 := N10
          replace hF := hF.go1 U10 ge_b9
          refine opv_run (fieldAt_eq (off := 2) (by kernel_rfl)) ?_
          refine opv_run (ldC (by kernel_rfl) h_b4 (by rfl)) ?_
          refine opv_run (len_sl (by kernel_rfl) _ _ _) ?_
          refine opv_dec (lss _ _ _ _) (fun h11 => ?_) (fun h11 => ?_)
          · refine condt ?_
            refine opv_run (ldA (n := 5) (cs' := (Gs.cv x8).toArray) (by kernel_rfl) h_b9 (by first | exact Nat.le_of_ble_eq_true rfl | (simp; done) | omega) (by rfl)) ?_
            refine callF_ex (c_Plane_Set h_bp own_p (Gs.made_len N cs k).symm (i := (k : Int)) (x := x8)) (fun v12 w12 D12 => ?_)
            obtain ⟨rfl, N12, U12⟩ := D12
            have own_p_o := own_p
            replace own_p := N12
            replace own_x := own_x.updS U12 nx6_own_x_own_p
            replace h_bp := U12.get h_bp (fun h => by first | (have := Own.ge own_p_o h; omega) | exact Own.ne_blk own_p_o h_bp (by decide) _ h rfl | exact Own.not_loop own_p_o h_bp (by assumption) _ h rfl | exact Own.not_def own_p_o h_bp _ h rfl | simp_all)
            replace h_b4 := U12.get h_b4 nx6_h_b4_own_p
            replace h_b2 := U12.get h_b2 nx6_h_b2_own_p
            replace rd1 := rd1.updS U12 nx6_rd1_own_p
            replace h_b9 := U12.get h_b9 (fun h => na_own_p_b9 _ h rfl)
            replace hF := hF.go U12 (fun i h hs => by first | exact hs | exact .inl hs | exact .inr hs | (have := (Own.ge own_p_o hs).1; omega))
            clear own_p_o
            refine opv_run (fieldAt_eq (off := 2) (by kernel_rfl)) ?_
            refine opv_run (ldC (by kernel_rfl) h_b4 (by rfl)) ?_
            refine opv_run (ldA (n := 5) (cs' := (Gs.cv x8).toArray) (by kernel_rfl) h_b9 (by first | exact Nat.le_of_ble_eq_true rfl | (simp; done) | omega) (by rfl)) ?_
            obtain ⟨g13, hg13, _⟩ := own_x.at (by rw [rows_len Gs.encC]; omega)
            first | subst hg13 | cases hg13
            refine opv_run (index_slice (n := 5) (by kernel_rfl) (by omega) (by omega)) ?_
            refine store_row (i := (k : Int)) Gs.encC (by kernel_rfl) own_x (by omega) (by omega) rfl (fun w14 N14 _ U14 => ?_)
            have own_x_o := own_x
            replace own_p := own_p.updS U14 (fun k hk hs => nx6_own_x_own_p k hs hk)
            replace own_x := N14
            replace h_bp := U14.get h_bp (fun h => na_own_x_bp _ h rfl)
            replace h_b4 := U14.get h_b4 (fun h => na_own_x_b4 _ h rfl)
            replace h_b2 := U14.get h_b2 nx3_h_b2_own_x
            replace rd1 := rd1.updS U14 nx3_rd1_own_x
            replace h_b9 := U14.get h_b9 (fun h => na_own_x_b9 _ h rfl)
            replace hF := hF.go U14 (fun i h hs => by first | exact hs | exact .inl hs | exact .inr hs | (have := (Own.ge own_x_o hs).1; omega))
            clear own_x_o
            refine hJ3 _ _ ?_
            exact ⟨(by first | (rw [← Gs.made_in hx8 (by omega)]; rw [Gs.setC_in _ (by omega) (by rw [Gs.made_len]; omega)] at own_p; exact own_p) | (rw [Gs.made_out (by omega) (by omega)]; exact own_p)), (by first | (rw [← Gs.made_in hx8 (by omega)]; exact own_x) | (rw [Gs.made_out (by omega) (by omega)]; exact own_x)), h_bp, h_b4, h_b2, rd1, hF⟩
          · refine condf ?_
            refine hJ3 _ _ ?_
            exact ⟨(by first | (rw [← Gs.made_in hx8 (by omega)]; rw [Gs.setC_in _ (by omega) (by rw [Gs.made_len]; omega)] at own_p; exact own_p) | (rw [Gs.made_out (by omega) (by omega)]; exact own_p)), (by first | (rw [← Gs.made_in hx8 (by omega)]; exact own_x) | (rw [Gs.made_out (by omega) (by omega)]; exact own_x)), h_bp, h_b4, h_b2, rd1, hF⟩
        · obtain ⟨own_p, own_x, h_bp, h_b4, h_b2, rd1, hF⟩ := hI
          first | refine opv_run (add_i64 _ (by omega)) ?_ | refine opv_run (addI _ _ _ _) ?_
          exact ⟨⟨k + 1, (by first | exact g34 | rfl), by omega, own_p, own_x, h_bp, h_b4, h_b2, rd1, hF⟩, cnt_lt (by first | rfl | exact g34) rfl (by omega)⟩
      · refine condf ?_
        refine hJ1 _ _ ?_
        exact ⟨(by rw [show cs.length = k by omega]; exact own_p), (by rw [show cs.length = k by omega]; exact own_x), h_bp, h_b4, h_b2, rd1, hF⟩
  · obtain ⟨own_p, own_x, h_bp, h_b4, h_b2, rd1, hF⟩ := hI
    refine drawn_S (S := no) (fun w15 U15 => ?_)
    replace own_p := own_p.upd0 U15
    replace own_x := own_x.upd0 U15
    replace rd1 := rd1.upd0 U15
    replace h_bp := U15.get0 h_bp
    replace h_b4 := U15.get0 h_b4
    replace h_b2 := U15.get0 h_b2
    replace hF := hF.go0 U15
    refine qop_run (fun w' hw' => by have h_b4 := hw'.get0 h_b4; exact (ldA (n := 4) (by kernel_rfl) h_b4 (by first | exact Nat.le_of_ble_eq_true rfl | (simp; done) | omega) (by rfl))) ?_
    refine ext_intro (fun w16 U16 => ?_)
    replace own_p := own_p.upd0 U16
    replace own_x := own_x.upd0 U16
    replace rd1 := rd1.upd0 U16
    replace h_bp := U16.get0 h_bp
    replace h_b4 := U16.get0 h_b4
    replace h_b2 := U16.get0 h_b2
    replace hF := hF.go0 U16
    refine store_intro (n := 4) (by kernel_rfl) (by rfl) (by first | rfl | (simp [Value.cells, Value.oneCell', Gs.cv, Gs.fv]; done)) h_b2 (by first | exact Nat.le_of_ble_eq_true rfl | (simp; done) | omega) (by first | (simp; rfl) | rfl) (fun w17 N17 _ U17 => ?_)
    replace own_p := own_p.upd1 U17 (by first | assumption | exact Own.ne_blk own_p (by assumption) (by decide) | exact Own.not_loop own_p (by assumption) (by assumption) | exact Own.not_def own_p (by assumption) | exact Own.not_loop own_p (by assumption) (lp3 _))
    replace own_x := own_x.upd1 U17 (by first | assumption | exact Own.ne_blk own_x (by assumption) (by decide) | exact Own.not_loop own_x (by assumption) (by assumption) | exact Own.not_def own_x (by assumption) | exact Own.not_loop own_x (by assumption) (lp3 _))
    replace rd1 := rd1.upd1 U17 na_rd1_b2
    replace h_bp := U17.get1 h_bp (Ne.symm ne_b2_bp)
    replace h_b4 := U17.get1 h_b4 (Ne.symm ne_b2_b4)
    replace h_b2 := N17
    replace hF := hF.go1 U17 ge_b2
    refine ext_intro (fun w18 U18 => ?_)
    replace own_p := own_p.upd0 U18
    replace own_x := own_x.upd0 U18
    replace rd1 := rd1.upd0 U18
    replace h_bp := U18.get0 h_bp
    replace h_b4 := U18.get0 h_b4
    replace h_b2 := U18.get0 h_b2
    replace hF := hF.go0 U18
    refine ldv_run (ldA (n := 4) (by kernel_rfl) h_b2 (by first | exact Nat.le_of_ble_eq_true rfl | simp | omega) (by rfl)) ?_
    exact ⟨_, rfl, bp, gp, gx, rfl, by assumption, h_bp, own_p, own_x, fun he => by subst he; exact nx6_own_x_own_p _ rfl rfl, hF⟩

end Go.Proofs.Ytojcbhkhfcddnaa
