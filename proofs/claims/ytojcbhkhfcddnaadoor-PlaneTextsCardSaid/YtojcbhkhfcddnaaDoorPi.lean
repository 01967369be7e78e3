/-
  Contracts of functions of the program, walked over their shallow forms. No condition but the ones that each states.
-/
import Derived.Test.YtojcbhkhfcddnaaDoorPh
import Derived.Test.YtojcbhkhfcddnaaDoorPlaneLaws
namespace Go.Proofs.YtojcbhkhfcddnaaDoor
open Go Go.Sh
set_option linter.unusedVariables false
set_option maxRecDepth 100000


/-- greenscreen/greenscreenlaw14.same -/
theorem c_law14_same {r c cur : Int} {A : Option Addr} {n cp bp B0 : Nat} {cs : List Gs.Cell} {w : World} (h_bp : w.heap[bp]? = some (.cells #[.int .i64 r, .int .i64 c, .slice A n cp, .int .i64 cur] 66 (0, 0))) (own_p : Own B0 w 36 5 (.slice A n cp) (rows Gs.cv cs)) (hn : n = cs.length) {r2 c2 cur2 : Int} {A2 : Option Addr} {n2 cp2 : Nat} {ds : List Gs.Cell} (rd2 : Rd w A2 (rows Gs.cv ds)) (hn2 : n2 = ds.length) (hb : n ≤ 4096) :
    Calls Tryd.prog 18 #[.pointer (some ⟨bp, 0, none⟩), .agg #[.int .i64 r2, .int .i64 c2, .slice A2 n2 cp2, .int .i64 cur2]] w fun e w' => e = .returned (.bool (decide ((r = r2 ∧ c = c2) ∧ cur = cur2 ∧ cs = ds))) ∧ Upd no w w' := by
  refine F18.calls ?_
  unfold F18
  have lt_h_bp := lt_get h_bp
  have lt_own_p := Own.lt own_p
  have lt_rd2 := Rd.lt rd2
  have hF : Upd no w w := Fr.refl _ _ _
  refine box_intro (cs := #[.int .i64 r2, .int .i64 c2, .slice A2 n2 cp2, .int .i64 cur2]) (by rfl) (fun b1 w1 e1 h_b1 _ U1 => ?_)
  have ne_bp_b1 : bp ≠ b1 := by have := lt_get h_bp; omega
  have na_own_p_b1 := own_p.apart e1
  have na_rd2_b1 := rd2.apart e1
  have ge_b1 : w.heap.size ≤ b1 := by have := hF.size; omega
  replace own_p := own_p.upd0 U1
  replace rd2 := rd2.upd0 U1
  replace h_bp := U1.get0 h_bp
  replace hF := hF.go0 U1
  clear e1
  refine drawn_S (S := no) (fun w2 U2 => ?_)
  replace own_p := own_p.upd0 U2
  replace rd2 := rd2.upd0 U2
  replace h_bp := U2.get0 h_bp
  replace h_b1 := U2.get0 h_b1
  replace hF := hF.go0 U2
  refine qop_call (fun w' hw' => by have h_bp := hw'.get0 h_bp; have own_p := own_p.upd0 hw'; exact c_Plane_Len h_bp own_p hn) ?_
  refine qop_run (fun w' hw' => (fieldAt_eq (off := 2) (by kernel_rfl))) ?_
  refine qop_run (fun w' hw' => by have h_b1 := hw'.get0 h_b1; exact (ldC (by kernel_rfl) h_b1 (by rfl))) ?_
  refine qop_run (fun w' hw' => (len_sl (by kernel_rfl) _ _ _)) ?_
  refine qop_dec (fun w' hw' => (neI _ _ _ _ _)) (fun h4 => ?_) (fun h4 => ?_)
  · refine qgdtf ?_
    refine qgdtf ?_
    refine qgdtf ?_
    refine qgdtf ?_
    refine qgdtf ?_
    refine qpickt ?_
    refine qgdtf ?_
    refine qgdtf ?_
    refine qgdtf ?_
    refine qgdtf ?_
    refine qgdtf ?_
    refine qpickt ?_
    refine ext_intro (fun w5 U5 => ?_)
    replace own_p := own_p.upd0 U5
    replace rd2 := rd2.upd0 U5
    replace h_bp := U5.get0 h_bp
    replace h_b1 := U5.get0 h_b1
    replace hF := hF.go0 U5
    refine condt ?_
    first | exact ⟨retT ⟨by omega, by omega, hall⟩, hF⟩ | exact ⟨retF (fun he => by obtain ⟨h1, h2, h3⟩ := he; subst h3; first | contradiction | omega), hF⟩ | exact ⟨retF (fun he => by obtain ⟨h1, h2, h3⟩ := he; have h4 := Gs.getC_in (i := (k : Int)) (by omega) hx?; rw [← h3] at h4; contradiction), hF⟩
  · refine qgdff ?_
    refine qmove ?_
    refine qgdff ?_
    refine qop_call (fun w' hw' => by have h_bp := hw'.get0 h_bp; have own_p := own_p.upd0 hw'; exact c_Plane_Size h_bp own_p hn) ?_
    refine qgdff ?_
    refine qop_run (fun w' hw' => (fieldAt_eq (off := 0) (by kernel_rfl))) ?_
    refine qgdff ?_
    refine qop_run (fun w' hw' => by have h_b1 := hw'.get0 h_b1; exact (ldA (n := 2) (cs' := #[.int .i64 r2, .int .i64 c2]) (by kernel_rfl) h_b1 (by first | exact Nat.le_of_ble_eq_true rfl | (simp; done) | omega) (by rfl))) ?_
    refine qgdff ?_
    refine qop_dec (fun w' hw' => (ne_Size _)) (fun h8 => ?_) (fun h8 => ?_)
    · refine qpickf ?_
      refine qgdtf ?_
      refine qgdtf ?_
      refine qgdtf ?_
      refine qgdtf ?_
      refine qgdtf ?_
      refine qpickt ?_
      refine ext_intro (fun w9 U9 => ?_)
      replace own_p := own_p.upd0 U9
      replace rd2 := rd2.upd0 U9
      replace h_bp := U9.get0 h_bp
      replace h_b1 := U9.get0 h_b1
      replace hF := hF.go0 U9
      refine condt ?_
      first | exact ⟨retT ⟨by omega, by omega, hall⟩, hF⟩ | exact ⟨retF (fun he => by obtain ⟨h1, h2, h3⟩ := he; subst h3; first | contradiction | omega), hF⟩ | exact ⟨retF (fun he => by obtain ⟨h1, h2, h3⟩ := he; have h4 := Gs.getC_in (i := (k : Int)) (by omega) hx?; rw [← h3] at h4; contradiction), hF⟩
    · refine qpickf ?_
      refine qgdff ?_
      refine qmove ?_
      refine qgdff ?_
      refine qop_call (fun w' hw' => by have h_bp := hw'.get0 h_bp; have own_p := own_p.upd0 hw'; exact c_Plane_Cursor h_bp own_p hn) ?_
      refine qgdff ?_
      refine qop_run (fun w' hw' => (fieldAt_eq (off := 3) (by kernel_rfl))) ?_
      refine qgdff ?_
      refine qop_run (fun w' hw' => by have h_b1 := hw'.get0 h_b1; exact (ldC (by kernel_rfl) h_b1 (by rfl))) ?_
      refine qgdff ?_
      refine qop_dec (fun w' hw' => (neI _ _ _ _ _)) (fun h12 => ?_) (fun h12 => ?_)
      · refine qpickf ?_
        refine ext_intro (fun w13 U13 => ?_)
        replace own_p := own_p.upd0 U13
        replace rd2 := rd2.upd0 U13
        replace h_bp := U13.get0 h_bp
        replace h_b1 := U13.get0 h_b1
        replace hF := hF.go0 U13
        refine condt ?_
        first | exact ⟨retT ⟨by omega, by omega, hall⟩, hF⟩ | exact ⟨retF (fun he => by obtain ⟨h1, h2, h3⟩ := he; subst h3; first | contradiction | omega), hF⟩ | exact ⟨retF (fun he => by obtain ⟨h1, h2, h3⟩ := he; have h4 := Gs.getC_in (i := (k : Int)) (by omega) hx?; rw [← h3] at h4; contradiction), hF⟩
      · refine qpickf ?_
        refine ext_intro (fun w15 U15 => ?_)
        replace own_p := own_p.upd0 U15
        replace rd2 := rd2.upd0 U15
        replace h_bp := U15.get0 h_bp
        replace h_b1 := U15.get0 h_b1
        replace hF := hF.go0 U15
        refine condf ?_
        refine join_cut (fun g w' => (cs = ds) ∧ (Upd no w w')) (fun J1 hJ1 => ?_) (fun gJ1 wJ1 hI => ?_)
        · refine opv_run (fieldAt_eq (off := 2) (by kernel_rfl)) ?_
          refine opv_run (ldC (by kernel_rfl) h_b1 (by rfl)) ?_
          refine opv_run (len_sl (by kernel_rfl) _ _ _) ?_
          refine loop_intro (fun g w' => ∃ (k : Nat), (g 29 = .int .i64 (k : Int)) ∧ (k ≤ cs.length) ∧ (cs.take k = ds.take k) ∧ (w'.heap[bp]? = some (.cells #[.int .i64 r, .int .i64 c, .slice A n cp, .int .i64 cur] 66 (0, 0))) ∧ (Own B0 w' 36 5 (.slice A n cp) (rows Gs.cv cs)) ∧ (w'.heap[b1]? = some (.cells #[.int .i64 r2, .int .i64 c2, .slice A2 n2 cp2, .int .i64 cur2] 32 (0, 0))) ∧ (Rd w' A2 (rows Gs.cv ds)) ∧ (Upd no w w')) (fun g w' => cs.length - (RowKit.intOf (g 29)).toNat) ?_ (fun g2 wl2 hI => ?_)
          · exact ⟨0, (by first | exact g29 | rfl), Nat.zero_le _, rfl, h_bp, own_p, h_b1, rd2, hF⟩
          · obtain ⟨k, g29, hk, hall, h_bp, own_p, h_b1, rd2, hF⟩ := hI
            try rw [g29]
            refine opv_dec (lss _ _ _ _) (fun h16 => ?_) (fun h16 => ?_)
            · refine condt ?_
              refine drawn_S (S := no) (fun w17 U17 => ?_)
              replace own_p := own_p.upd0 U17
              replace rd2 := rd2.upd0 U17
              replace h_bp := U17.get0 h_bp
              replace h_b1 := U17.get0 h_b1
              replace hF := hF.go0 U17
              refine qop_call (fun w' hw' => by have h_bp := hw'.get0 h_bp; have own_p := own_p.upd0 hw'; exact c_Plane_At h_bp own_p hn (i := (k : Int))) ?_
              refine qop_run (fun w' hw' => (fieldAt_eq (off := 2) (by kernel_rfl))) ?_
              refine qop_run (fun w' hw' => by have h_b1 := hw'.get0 h_b1; exact (ldC (by kernel_rfl) h_b1 (by rfl))) ?_
              refine qidx Gs.encC (by kernel_rfl) (by kernel_rfl) (fun w' hw' => rd2.upd0 hw') (Fr.refl _ _ _) (by first | rfl | assumption | omega) (by omega) (by omega) (fun x19 hx19 => ?_)
              try simp only [Int.toNat_natCast] at hx19
              refine qop_dec (fun w' hw' => (ne_Cell _)) (fun h20 => ?_) (fun h20 => ?_)
              · refine ext_intro (fun w21 U21 => ?_)
                replace own_p := own_p.upd0 U21
                replace rd2 := rd2.upd0 U21
                replace h_bp := U21.get0 h_bp
                replace h_b1 := U21.get0 h_b1
                replace hF := hF.go0 U21
                refine condt ?_
                first | exact ⟨retT ⟨by omega, by omega, hall⟩, hF⟩ | exact ⟨retF (fun he => by obtain ⟨h1, h2, h3⟩ := he; subst h3; first | contradiction | omega), hF⟩ | exact ⟨retF (fun he => by obtain ⟨h1, h2, h3⟩ := he; have h4 := Gs.getC_in (i := (k : Int)) (by omega) hx19; rw [← h3] at h4; contradiction), hF⟩
              · refine ext_intro (fun w23 U23 => ?_)
                replace own_p := own_p.upd0 U23
                replace rd2 := rd2.upd0 U23
                replace h_bp := U23.get0 h_bp
                replace h_b1 := U23.get0 h_b1
                replace hF := hF.go0 U23
                refine condf ?_
                first | refine opv_run (add_i64 _ (by omega)) ?_ | refine opv_run (addI _ _ _ _) ?_
                exact ⟨⟨k + 1, (by first | exact g29 | rfl), by omega, (take_same hall (Gs.getC_at (by omega)) hx19 (by by_cases hq : Gs.getC cs k = x19; exact hq; contradiction)), h_bp, own_p, h_b1, rd2, hF⟩, cnt_lt (by first | rfl | exact g29) rfl (by omega)⟩
            · refine condf ?_
              refine hJ1 _ _ ?_
              exact ⟨(take_all hall (by omega) (by omega)), hF⟩
        · obtain ⟨hall, hF⟩ := hI
          first | exact ⟨retT ⟨by omega, by omega, hall⟩, hF⟩ | exact ⟨retF (fun he => by obtain ⟨h1, h2, h3⟩ := he; subst h3; first | contradiction | omega), hF⟩ | exact ⟨retF (fun he => by obtain ⟨h1, h2, h3⟩ := he; have h4 := Gs.getC_in (i := (k : Int)) (by omega) hx19; rw [← h3] at h4; contradiction), hF⟩

/-- greenscreen/greenscreenlaw14.PlaneFills -/
theorem c_PlaneFills_0 {r c : Int} {A : Option Addr} {n cp : Nat} {N : Nat} {cs : List Gs.Cell} {w : World} (rd1 : Rd w A (rows Gs.cv cs)) (hn : n = cs.length) (hnm : n ≤ 9223372036854775807){i j : Int} {x : Gs.Cell} (hz : Gs.cellsN r c = 0) :
    Calls Tryd.prog 7 #[.agg #[.int .i64 r, .int .i64 c], .slice A n cp, .int .i64 i, .int .i64 j, .agg (Gs.cv x).toArray] w fun e w' => e = .returned (.bool true) ∧ Upd no w w' := by
  refine F7.calls ?_
  unfold F7
  have lt_rd1 := Rd.lt rd1
  have hF : Upd no w w := Fr.refl _ _ _
  refine box_intro (by rfl) (fun b1 w1 e1 h_b1 _ U1 => ?_)
  have na_rd1_b1 := rd1.apart e1
  have ge_b1 : w.heap.size ≤ b1 := by have := hF.size; omega
  replace rd1 := rd1.upd0 U1
  replace hF := hF.go0 U1
  clear e1
  refine box_intro (cs := (Gs.cv x).toArray) (by rfl) (fun b2 w2 e2 h_b2 _ U2 => ?_)
  have na_rd1_b2 := rd1.apart e2
  have ne_b1_b2 : b1 ≠ b2 := by have := lt_get h_b1; omega
  have ge_b2 : w.heap.size ≤ b2 := by have := hF.size; omega
  replace rd1 := rd1.upd0 U2
  replace h_b1 := U2.get0 h_b1
  replace hF := hF.go0 U2
  clear e2
  refine callF_T (c_law14_alive) (rfl) (fun w3 U3 => ?_)
  replace rd1 := rd1.upd0 U3
  replace h_b1 := U3.get0 h_b1
  replace h_b2 := U3.get0 h_b2
  replace hF := hF.go0 U3
  refine opv_run (notT) ?_
  refine condf ?_
  refine opv_run (ldA (n := 2) (by kernel_rfl) h_b1 (by first | exact Nat.le_of_ble_eq_true rfl | (simp; done) | omega) (by rfl)) ?_
  refine callF_ex (c_made_0 rd1 hn hnm hz) (fun v4 w4 D4 => ?_)
  obtain ⟨xa, xb, xc, xd, xe, xf, rfl, U4⟩ := D4
  replace rd1 := rd1.upd0 U4
  replace h_b1 := U4.get0 h_b1
  replace h_b2 := U4.get0 h_b2
  replace hF := hF.go0 U4
  refine opv_run (ext_t (by rfl)) ?_
  refine opv_run (ext_t (by rfl)) ?_
  refine opv_run (ext_t (by rfl)) ?_
  refine alloc_intro (cs := #[.int .i64 0, .int .i64 0, .slice none 0 0, .int .i64 0]) (by kernel_rfl) (fun b5 w5 e5 h_b5 _ U5 => ?_)
  have na_rd1_b5 := rd1.apart e5
  have ne_b1_b5 : b1 ≠ b5 := by have := lt_get h_b1; omega
  have ne_b2_b5 : b2 ≠ b5 := by have := lt_get h_b2; omega
  have ge_b5 : w.heap.size ≤ b5 := by have := hF.size; omega
  replace rd1 := rd1.upd0 U5
  replace h_b1 := U5.get0 h_b1
  replace h_b2 := U5.get0 h_b2
  replace hF := hF.go0 U5
  clear e5
  refine store_intro (n := 4) (cs' := #[.int .i64 xa, .int .i64 xb, .slice xd xe xf, .int .i64 xc]) (by kernel_rfl) (by rfl) (by first | rfl | (simp [Value.cells, Value.oneCell', Gs.cv]; done)) h_b5 (by first | exact Nat.le_of_ble_eq_true rfl | (simp; done) | omega) (by rfl) (fun w6 N6 _ U6 => ?_)
  replace rd1 := rd1.upd1 U6 na_rd1_b5
  replace h_b1 := U6.get1 h_b1 ne_b1_b5
  replace h_b2 := U6.get1 h_b2 ne_b2_b5
  replace h_b5 := N6
  replace hF := hF.go1 U6 ge_b5
  refine opv_run (notF) ?_
  refine condt ?_
  exact ⟨rfl, hF⟩

/-- greenscreen/greenscreenlaw14.PlaneFills -/
theorem c_PlaneFills_big {r c : Int} {A : Option Addr} {n cp : Nat} {N : Nat} {cs : List Gs.Cell} {w : World} (rd1 : Rd w A (rows Gs.cv cs)) (hn : n = cs.length) (hnm : n ≤ 9223372036854775807){i j : Int} {x : Gs.Cell} (hN : Gs.cellsN r c = N) (hz : 200 < N) :
    Calls Tryd.prog 7 #[.agg #[.int .i64 r, .int .i64 c], .slice A n cp, .int .i64 i, .int .i64 j, .agg (Gs.cv x).toArray] w fun e w' => e = .returned (.bool true) ∧ Upd no w w' := by
  refine F7.calls ?_
  unfold F7
  have lt_rd1 := Rd.lt rd1
  have hF : Upd no w w := Fr.refl _ _ _
  refine box_intro (by rfl) (fun b1 w1 e1 h_b1 _ U1 => ?_)
  have na_rd1_b1 := rd1.apart e1
  have ge_b1 : w.heap.size ≤ b1 := by have := hF.size; omega
  replace rd1 := rd1.upd0 U1
  replace hF := hF.go0 U1
  clear e1
  refine box_intro (cs := (Gs.cv x).toArray) (by rfl) (fun b2 w2 e2 h_b2 _ U2 => ?_)
  have na_rd1_b2 := rd1.apart e2
  have ne_b1_b2 : b1 ≠ b2 := by have := lt_get h_b1; omega
  have ge_b2 : w.heap.size ≤ b2 := by have := hF.size; omega
  replace rd1 := rd1.upd0 U2
  replace h_b1 := U2.get0 h_b1
  replace hF := hF.go0 U2
  clear e2
  refine callF_T (c_law14_alive) (rfl) (fun w3 U3 => ?_)
  replace rd1 := rd1.upd0 U3
  replace h_b1 := U3.get0 h_b1
  replace h_b2 := U3.get0 h_b2
  replace hF := hF.go0 U3
  refine opv_run (notT) ?_
  refine condf ?_
  refine opv_run (ldA (n := 2) (by kernel_rfl) h_b1 (by first | exact Nat.le_of_ble_eq_true rfl | (simp; done) | omega) (by rfl)) ?_
  refine callF_ex (c_made_big rd1 hn hnm hN hz) (fun v4 w4 D4 => ?_)
  obtain ⟨xa, xb, xc, xd, xe, xf, rfl, U4⟩ := D4
  replace rd1 := rd1.upd0 U4
  replace h_b1 := U4.get0 h_b1
  replace h_b2 := U4.get0 h_b2
  replace hF := hF.go0 U4
  refine opv_run (ext_t (by rfl)) ?_
  refine opv_run (ext_t (by rfl)) ?_
  refine opv_run (ext_t (by rfl)) ?_
  refine alloc_intro (cs := #[.int .i64 0, .int .i64 0, .slice none 0 0, .int .i64 0]) (by kernel_rfl) (fun b5 w5 e5 h_b5 _ U5 => ?_)
  have na_rd1_b5 := rd1.apart e5
  have ne_b1_b5 : b1 ≠ b5 := by have := lt_get h_b1; omega
  have ne_b2_b5 : b2 ≠ b5 := by have := lt_get h_b2; omega
  have ge_b5 : w.heap.size ≤ b5 := by have := hF.size; omega
  replace rd1 := rd1.upd0 U5
  replace h_b1 := U5.get0 h_b1
  replace h_b2 := U5.get0 h_b2
  replace hF := hF.go0 U5
  clear e5
  refine store_intro (n := 4) (cs' := #[.int .i64 xa, .int .i64 xb, .slice xd xe xf, .int .i64 xc]) (by kernel_rfl) (by rfl) (by first | rfl | (simp [Value.cells, Value.oneCell', Gs.cv]; done)) h_b5 (by first | exact Nat.le_of_ble_eq_true rfl | (simp; done) | omega) (by rfl) (fun w6 N6 _ U6 => ?_)
  replace rd1 := rd1.upd1 U6 na_rd1_b5
  replace h_b1 := U6.get1 h_b1 ne_b1_b5
  replace h_b2 := U6.get1 h_b2 ne_b2_b5
  replace h_b5 := N6
  replace hF := hF.go1 U6 ge_b5
  refine opv_run (notF) ?_
  refine condt ?_
  exact ⟨rfl, hF⟩

/-- greenscreen/greenscreenlaw14.PlaneFills -/
theorem c_PlaneFills_ok {r c : Int} {A : Option Addr} {n cp : Nat} {N : Nat} {cs : List Gs.Cell} {w : World} (rd1 : Rd w A (rows Gs.cv cs)) (hn : n = cs.length) (hnm : n ≤ 9223372036854775807){i j : Int} {x : Gs.Cell} (hcw : Gs.Cws cs) (hN : Gs.cellsN r c = N) (hz : N ≠ 0) (hz2 : N ≤ 200) :
    Calls Tryd.prog 7 #[.agg #[.int .i64 r, .int .i64 c], .slice A n cp, .int .i64 i, .int .i64 j, .agg (Gs.cv x).toArray] w fun e w' => e = .returned (.bool true) ∧ Upd no w w' := by
  refine F7.calls ?_
  unfold F7
  have hfi := Gs.place i hz
  have hfj := Gs.place j hz
  have lt_rd1 := Rd.lt rd1
  have hF : Upd no w w := Fr.refl _ _ _
  refine box_intro (by rfl) (fun b1 w1 e1 h_b1 _ U1 => ?_)
  have na_rd1_b1 := rd1.apart e1
  have ge_b1 : w.heap.size ≤ b1 := by have := hF.size; omega
  replace rd1 := rd1.upd0 U1
  replace hF := hF.go0 U1
  clear e1
  refine box_intro (cs := (Gs.cv x).toArray) (by rfl) (fun b2 w2 e2 h_b2 _ U2 => ?_)
  have na_rd1_b2 := rd1.apart e2
  have ne_b1_b2 : b1 ≠ b2 := by have := lt_get h_b1; omega
  have ge_b2 : w.heap.size ≤ b2 := by have := hF.size; omega
  replace rd1 := rd1.upd0 U2
  replace h_b1 := U2.get0 h_b1
  replace hF := hF.go0 U2
  clear e2
  refine callF_T (c_law14_alive) (rfl) (fun w3 U3 => ?_)
  replace rd1 := rd1.upd0 U3
  replace h_b1 := U3.get0 h_b1
  replace h_b2 := U3.get0 h_b2
  replace hF := hF.go0 U3
  refine opv_run (notT) ?_
  refine condf ?_
  refine opv_run (ldA (n := 2) (by kernel_rfl) h_b1 (by first | exact Nat.le_of_ble_eq_true rfl | (simp; done) | omega) (by rfl)) ?_
  refine callF_ex (c_made_ok rd1 hn hnm hN hz hz2) (fun v4 w4 D4 => ?_)
  obtain ⟨bp, gp, gx, rfl, gbp, h_bp, own_p, own_x, npx, U4⟩ := D4
  have na_rd1_bp := (Rd.lt rd1).ne (b := bp) (by omega)
  have ne_b1_bp : b1 ≠ bp := by have := lt_get h_b1; omega
  have ne_b2_bp : b2 ≠ bp := by have := lt_get h_b2; omega
  have ge_bp : w.heap.size ≤ bp := by have := hF.size; omega
  have nx4_rd1_own_p : _ ∨ ∀ k, blkOf _ k → ¬ ownS _ k := (Rd.lt rd1).imp_right fun h k hk hs => by have := h k hk; have := (Own.ge own_p hs).1; omega
  have nx4_h_b1_own_p : ¬ ownS _ b1 := fun h => by have := (Own.ge own_p h).1; have := lt_get h_b1; omega
  have nx4_h_b2_own_p : ¬ ownS _ b2 := fun h => by have := (Own.ge own_p h).1; have := lt_get h_b2; omega
  replace own_p := own_p.mono (B' := w.heap.size) hF.size
  have nx4_rd1_own_x : _ ∨ ∀ k, blkOf _ k → ¬ ownS _ k := (Rd.lt rd1).imp_right fun h k hk hs => by have := h k hk; have := (Own.ge own_x hs).1; omega
  have nx4_h_b1_own_x : ¬ ownS _ b1 := fun h => by have := (Own.ge own_x h).1; have := lt_get h_b1; omega
  have nx4_h_b2_own_x : ¬ ownS _ b2 := fun h => by have := (Own.ge own_x h).1; have := lt_get h_b2; omega
  replace own_x := own_x.mono (B' := w.heap.size) hF.size
  replace rd1 := rd1.upd0 U4
  replace h_b1 := U4.get0 h_b1
  replace h_b2 := U4.get0 h_b2
  replace hF := hF.go0 U4
  obtain ⟨ps, hps⟩ : ∃ ps, ps = Gs.madeK N cs cs.length := ⟨_, rfl⟩
  rw [← hps] at own_p own_x
  have hpl : N = ps.length := by rw [hps, Gs.made_len]
  have hpw : Gs.Cws ps := by rw [hps]; exact Gs.made_w hcw _
  clear hps
  refine opv_run (ext_t (by rfl)) ?_
  refine opv_run (ext_t (by rfl)) ?_
  refine opv_run (ext_t (by rfl)) ?_
  refine alloc_intro (cs := #[.int .i64 0, .int .i64 0, .slice none 0 0, .int .i64 0]) (by kernel_rfl) (fun b5 w5 e5 h_b5 _ U5 => ?_)
  have na_rd1_b5 := rd1.apart e5
  have ne_b1_b5 : b1 ≠ b5 := by have := lt_get h_b1; omega
  have ne_b2_b5 : b2 ≠ b5 := by have := lt_get h_b2; omega
  have ne_bp_b5 : bp ≠ b5 := by have := lt_get h_bp; omega
  have na_own_p_b5 := own_p.apart e5
  have na_own_x_b5 := own_x.apart e5
  have ge_b5 : w.heap.size ≤ b5 := by have := hF.size; omega
  replace rd1 := rd1.upd0 U5
  replace own_p := own_p.upd0 U5
  replace own_x := own_x.upd0 U5
  replace h_b1 := U5.get0 h_b1
  replace h_b2 := U5.get0 h_b2
  replace h_bp := U5.get0 h_bp
  replace hF := hF.go0 U5
  clear e5
  refine store_intro (n := 4) (cs' := #[.int .i64 r, .int .i64 c, .slice (some ⟨gx, 0, none⟩) N N, .int .i64 0]) (by kernel_rfl) (by rfl) (by first | rfl | (simp [Value.cells, Value.oneCell', Gs.cv]; done)) h_b5 (by first | exact Nat.le_of_ble_eq_true rfl | (simp; done) | omega) (by rfl) (fun w6 N6 _ U6 => ?_)
  replace rd1 := rd1.upd1 U6 na_rd1_b5
  replace own_p := own_p.upd1 U6 na_own_p_b5
  replace own_x := own_x.upd1 U6 na_own_x_b5
  replace h_b1 := U6.get1 h_b1 ne_b1_b5
  replace h_b2 := U6.get1 h_b2 ne_b2_b5
  replace h_bp := U6.get1 h_bp ne_bp_b5
  replace h_b5 := N6
  replace hF := hF.go1 U6 ge_b5
  refine opv_run (notT) ?_
  refine condf ?_
  refine drawn_S (S := no) (fun w7 U7 => ?_)
  replace rd1 := rd1.upd0 U7
  replace own_p := own_p.upd0 U7
  replace own_x := own_x.upd0 U7
  replace h_b1 := U7.get0 h_b1
  replace h_b2 := U7.get0 h_b2
  replace h_bp := U7.get0 h_bp
  replace h_b5 := U7.get0 h_b5
  replace hF := hF.go0 U7
  refine qop_run (fun w' hw' => (and_4095 _ _)) ?_
  refine qop_call (fun w' hw' => by have h_bp := hw'.get0 h_bp; have own_p := own_p.upd0 hw'; exact c_Plane_Len h_bp own_p hpl) ?_
  refine qop_run (fun w' hw' => (remN _ (by omega) (by omega) (by omega))) ?_
  refine qop_run (fun w' hw' => (and_4095 _ _)) ?_
  refine qop_call (fun w' hw' => by have h_bp := hw'.get0 h_bp; have own_p := own_p.upd0 hw'; exact c_Plane_Len h_bp own_p hpl) ?_
  refine qop_run (fun w' hw' => (remN _ (by omega) (by omega) (by omega))) ?_
  refine ext_intro (fun w10 U10 => ?_)
  replace rd1 := rd1.upd0 U10
  replace own_p := own_p.upd0 U10
  replace own_x := own_x.upd0 U10
  replace h_b1 := U10.get0 h_b1
  replace h_b2 := U10.get0 h_b2
  replace h_bp := U10.get0 h_bp
  replace h_b5 := U10.get0 h_b5
  replace hF := hF.go0 U10
  obtain ⟨f, hf⟩ : ∃ f, f = i % 4096 % (N : Int) := ⟨_, rfl⟩
  obtain ⟨t, ht⟩ : ∃ t, t = j % 4096 % (N : Int) := ⟨_, rfl⟩
  rw [← hf, ← ht]
  replace hf := hf ▸ hfi
  replace ht := ht ▸ hfj
  clear hfi hfj
  have hb1 := Gs.betw_bd hf ht
  have hb2 := Gs.betw_bd ht hf
  refine callF_ex (c_Plane_Clone h_bp own_p hpl (by omega) (by omega)) (fun v11 w11 D11 => ?_)
  obtain ⟨bq42, A42, c42, rfl, gb42, h_bq42, own42, U11⟩ := D11
  have na_rd1_bq42 := (Rd.lt rd1).ne (b := bq42) (by omega)
  have ne_b1_bq42 : b1 ≠ bq42 := by have := lt_get h_b1; omega
  have ne_b2_bq42 : b2 ≠ bq42 := by have := lt_get h_b2; omega
  have ne_bp_bq42 : bp ≠ bq42 := by have := lt_get h_bp; omega
  have na_own_p_bq42 : ∀ k, ownS _ k → k ≠ bq42 := fun k hk => by have := (Own.ge own_p hk).2; omega
  have na_own_x_bq42 : ∀ k, ownS _ k → k ≠ bq42 := fun k hk => by have := (Own.ge own_x hk).2; omega
  have ne_b5_bq42 : b5 ≠ bq42 := by have := lt_get h_b5; omega
  have ge_bq42 : w.heap.size ≤ bq42 := by have := hF.size; omega
  have nx11_rd1_own42 : _ ∨ ∀ k, blkOf _ k → ¬ ownS _ k := (Rd.lt rd1).imp_right fun h k hk hs => by have := h k hk; have := (Own.ge own42 hs).1; omega
  have nx11_h_b1_own42 : ¬ ownS _ b1 := fun h => by have := (Own.ge own42 h).1; have := lt_get h_b1; omega
  have nx11_h_b2_own42 : ¬ ownS _ b2 := fun h => by have := (Own.ge own42 h).1; have := lt_get h_b2; omega
  have nx11_h_bp_own42 : ¬ ownS _ bp := fun h => by have := (Own.ge own42 h).1; have := lt_get h_bp; omega
  have nx11_own_p_own42 : ∀ k, ownS _ k → ¬ ownS _ k := fun k hk hs => by have := (Own.ge own_p hk).2; have := (Own.ge own42 hs).1; omega
  have nx11_own_x_own42 : ∀ k, ownS _ k → ¬ ownS _ k := fun k hk hs => by have := (Own.ge own_x hk).2; have := (Own.ge own42 hs).1; omega
  have nx11_h_b5_own42 : ¬ ownS _ b5 := fun h => by have := (Own.ge own42 h).1; have := lt_get h_b5; omega
  replace own42 := own42.mono (B' := w.heap.size) hF.size
  replace rd1 := rd1.upd0 U11
  replace own_p := own_p.upd0 U11
  replace own_x := own_x.upd0 U11
  replace h_b1 := U11.get0 h_b1
  replace h_b2 := U11.get0 h_b2
  replace h_bp := U11.get0 h_bp
  replace h_b5 := U11.get0 h_b5
  replace hF := hF.go0 U11
  replace own42 := own42.mono (B' := w.heap.size) (by have := hF.size; omega)
  refine opv_run (ldA (n := 5) (cs' := (Gs.cv x).toArray) (by kernel_rfl) h_b2 (by first | exact Nat.le_of_ble_eq_true rfl | (simp; done) | omega) (by rfl)) ?_
  refine callF_ex (c_Plane_Fill h_bq42 own42 hpl (i := f) (j := t) (x := x) hN) (fun v12 w12 D12 => ?_)
  obtain ⟨rfl, N12, U12⟩ := D12
  have own42_o := own42
  replace rd1 := rd1.updS U12 nx11_rd1_own42
  replace h_b1 := U12.get h_b1 nx11_h_b1_own42
  replace h_b2 := U12.get h_b2 nx11_h_b2_own42
  replace h_bp := U12.get h_bp nx11_h_bp_own42
  replace own_p := own_p.updS U12 nx11_own_p_own42
  replace own_x := own_x.updS U12 nx11_own_x_own42
  replace h_b5 := U12.get h_b5 nx11_h_b5_own42
  replace h_bq42 := U12.get h_bq42 (fun h => by first | (have := Own.ge own42_o h; omega) | exact Own.ne_blk own42_o h_bq42 (by decide) _ h rfl | exact Own.not_loop own42_o h_bq42 (by assumption) _ h rfl | exact Own.not_def own42_o h_bq42 _ h rfl | simp_all)
  replace own42 := N12
  replace hF := hF.go U12 (fun i h hs => by first | exact hs | exact .inl hs | exact .inr hs | (have := (Own.ge own42_o hs).1; omega))
  clear own42_o
  rw [hN] at own42
  rw [hN]
  have hql : N = (Gs.fillC ps (Gs.betw N f t) x).length := by rw [Gs.fill_len]; exact hpl
  refine join_cut (fun g w' => (w'.heap[bp]? = some (.cells #[.int .i64 r, .int .i64 c, .slice (some ⟨gp, 0, none⟩) N N, .int .i64 0] 66 (0, 0))) ∧ (Own w.heap.size w' 36 5 (.slice (some ⟨gp, 0, none⟩) N N) (rows Gs.cv ps)) ∧ (w'.heap[bq42]? = some (.cells #[.int .i64 r, .int .i64 c, .slice A42 N c42, .int .i64 0] 66 (0, 0))) ∧ (Own w.heap.size w' 36 5 (.slice A42 N c42) (rows Gs.cv (Gs.fillC ps (Gs.betw N f t) x))) ∧ (w'.heap[b2]? = some (.cells (Gs.cv x).toArray 36 (0, 0))) ∧ (Upd no w w')) (fun J1 hJ1 => ?_) (fun gJ1 wJ1 hI => ?_)
  · refine callF_val (c_Plane_Len h_bp own_p hpl) (fun w13 U13 => ?_)
    replace rd1 := rd1.upd0 U13
    replace own_p := own_p.upd0 U13
    replace own_x := own_x.upd0 U13
    replace own42 := own42.upd0 U13
    replace h_b1 := U13.get0 h_b1
    replace h_b2 := U13.get0 h_b2
    replace h_bp := U13.get0 h_bp
    replace h_b5 := U13.get0 h_b5
    replace h_bq42 := U13.get0 h_bq42
    replace hF := hF.go0 U13
    refine loop_intro (fun g w' => ∃ (k : Nat), (g 50 = .int .i64 (k : Int)) ∧ (k ≤ N) ∧ (w'.heap[bp]? = some (.cells #[.int .i64 r, .int .i64 c, .slice (some ⟨gp, 0, none⟩) N N, .int .i64 0] 66 (0, 0))) ∧ (Own w.heap.size w' 36 5 (.slice (some ⟨gp, 0, none⟩) N N) (rows Gs.cv ps)) ∧ (w'.heap[bq42]? = some (.cells #[.int .i64 r, .int .i64 c, .slice A42 N c42, .int .i64 0] 66 (0, 0))) ∧ (Own w.heap.size w' 36 5 (.slice A42 N c42) (rows Gs.cv (Gs.fillC ps (Gs.betw N f t) x))) ∧ (w'.heap[b2]? = some (.cells (Gs.cv x).toArray 36 (0, 0))) ∧ (Upd no w w')) (fun g w' => N - (RowKit.intOf (g 50)).toNat) ?_ (fun g2 wl2 hI => ?_)
    · exact ⟨0, (by first | exact g50 | rfl), Nat.zero_le _, h_bp, own_p, h_bq42, own42, h_b2, hF⟩
    · obtain ⟨k, g50, hk, h_bp, own_p, h_bq42, own42, h_b2, hF⟩ := hI
      try rw [g50]
      refine opv_dec (lss _ _ _ _) (fun h14 => ?_) (fun h14 => ?_)
      · refine condt ?_
        first | refine opv_run (sub_i64 _ (by omega)) ?_ | refine opv_run (subI _ _ _ _) ?_
        refine callF_val (c_Plane_Len h_bp own_p hpl) (fun w15 U15 => ?_)
        replace own_p := own_p.upd0 U15
        replace own42 := own42.upd0 U15
        replace h_bp := U15.get0 h_bp
        replace h_bq42 := U15.get0 h_bq42
        replace h_b2 := U15.get0 h_b2
        replace hF := hF.go0 U15
        first | refine opv_run (add_i64 _ (by omega)) ?_ | refine opv_run (addI _ _ _ _) ?_
        refine callF_val (c_Plane_Len h_bp own_p hpl) (fun w16 U16 => ?_)
        replace own_p := own_p.upd0 U16
        replace own42 := own42.upd0 U16
        replace h_bp := U16.get0 h_bp
        replace h_bq42 := U16.get0 h_bq42
        replace h_b2 := U16.get0 h_b2
        replace hF := hF.go0 U16
        refine opv_run (remN _ (by omega) (by omega) (by omega)) ?_
        refine opv_dec (lss _ _ _ _) (fun h17 => ?_) (fun h17 => ?_)
        · refine drawn_S (S := no) (fun w18 U18 => ?_)
          replace own_p := own_p.upd0 U18
          replace own42 := own42.upd0 U18
          replace h_bp := U18.get0 h_bp
          replace h_bq42 := U18.get0 h_bq42
          replace h_b2 := U18.get0 h_b2
          replace hF := hF.go0 U18
          refine qgdtt ?_
          refine qmove ?_
          refine qgdtt ?_
          refine qmove ?_
          refine qgdtt ?_
          refine qop_call (fun w' hw' => by have h_bq42 := hw'.get0 h_bq42; have own42 := own42.upd0 hw'; exact c_Plane_At h_bq42 own42 hql (i := (k : Int))) ?_
          refine qgdtt ?_
          refine qop_run (fun w' hw' => by have h_b2 := hw'.get0 h_b2; exact (ldA (n := 5) (cs' := (Gs.cv x).toArray) (by kernel_rfl) h_b2 (by first | exact Nat.le_of_ble_eq_true rfl | (simp; done) | omega) (by rfl))) ?_
          refine qgdtt ?_
          refine qop_F (fun w' hw' => (ne_Cell _)) (fun hne => hne (Gs.fills_in hpl hf ht (by omega) (by assumption))) ?_
          refine qpickt ?_
          refine qgdff ?_
          refine qmove ?_
          refine qgdff ?_
          refine qop_run (fun w' hw' => (notT)) ?_
          refine qgdff ?_
          refine qmove ?_
          refine qgdft ?_
          refine qgdft ?_
          refine qgdft ?_
          refine qgdft ?_
          refine qgdft ?_
          refine qgdft ?_
          refine qgdft ?_
          refine qgdff ?_
          refine qpickf ?_
          refine qpickf ?_
          refine ext_intro (fun w20 U20 => ?_)
          replace own_p := own_p.upd0 U20
          replace own42 := own42.upd0 U20
          replace h_bp := U20.get0 h_bp
          replace h_bq42 := U20.get0 h_bq42
          replace h_b2 := U20.get0 h_b2
          replace hF := hF.go0 U20
          refine condf ?_
          first | refine opv_run (add_i64 _ (by omega)) ?_ | refine opv_run (addI _ _ _ _) ?_
          exact ⟨⟨k + 1, (by first | exact g50 | rfl), by omega, h_bp, own_p, h_bq42, own42, h_b2, hF⟩, cnt_lt (by first | rfl | exact g50) rfl (by omega)⟩
        · refine drawn_S (S := no) (fun w21 U21 => ?_)
          replace own_p := own_p.upd0 U21
          replace own42 := own42.upd0 U21
          replace h_bp := U21.get0 h_bp
          replace h_bq42 := U21.get0 h_bq42
          replace h_b2 := U21.get0 h_b2
          replace hF := hF.go0 U21
          refine qgdft ?_
          refine qgdft ?_
          refine qgdft ?_
          refine qgdft ?_
          refine qgdft ?_
          refine qpickf ?_
          refine qgdff ?_
          refine qmove ?_
          refine qgdff ?_
          refine qop_run (fun w' hw' => (notF)) ?_
          refine qgdff ?_
          refine qmove ?_
          refine qgdtt ?_
          refine qmove ?_
          refine qgdtt ?_
          refine qmove ?_
          refine qgdtt ?_
          refine qop_call (fun w' hw' => by have h_bq42 := hw'.get0 h_bq42; have own42 := own42.upd0 hw'; exact c_Plane_At h_bq42 own42 hql (i := (k : Int))) ?_
          refine qgdtt ?_
          refine qmove ?_
          refine qgdtt ?_
          refine qmove ?_
          refine qgdtt ?_
          refine qop_call (fun w' hw' => by have h_bp := hw'.get0 h_bp; have own_p := own_p.upd0 hw'; exact c_Plane_At h_bp own_p hpl (i := (k : Int))) ?_
          refine qgdtt ?_
          refine qop_F (fun w' hw' => (ne_Cell _)) (fun hne => hne (Gs.fills_out hpl hf ht (by omega) (by assumption))) ?_
          refine qgdff ?_
          refine qpickt ?_
          refine qpickf ?_
          refine ext_intro (fun w24 U24 => ?_)
          replace own_p := own_p.upd0 U24
          replace own42 := own42.upd0 U24
          replace h_bp := U24.get0 h_bp
          replace h_bq42 := U24.get0 h_bq42
          replace h_b2 := U24.get0 h_b2
          replace hF := hF.go0 U24
          refine condf ?_
          first | refine opv_run (add_i64 _ (by omega)) ?_ | refine opv_run (addI _ _ _ _) ?_
          exact ⟨⟨k + 1, (by first | exact g50 | rfl), by omega, h_bp, own_p, h_bq42, own42, h_b2, hF⟩, cnt_lt (by first | rfl | exact g50) rfl (by omega)⟩
      · refine condf ?_
        refine hJ1 _ _ ?_
        exact ⟨h_bp, own_p, h_bq42, own42, h_b2, hF⟩
  · obtain ⟨h_bp, own_p, h_bq42, own42, h_b2, hF⟩ := hI
    refine join_cut (fun g w' => (g 18 = .int .i64 (Gs.fillsN N f t)) ∧ (w'.heap[bp]? = some (.cells #[.int .i64 r, .int .i64 c, .slice (some ⟨gp, 0, none⟩) N N, .int .i64 0] 66 (0, 0))) ∧ (Own w.heap.size w' 36 5 (.slice (some ⟨gp, 0, none⟩) N N) (rows Gs.cv ps)) ∧ (w'.heap[bq42]? = some (.cells #[.int .i64 r, .int .i64 c, .slice A42 N c42, .int .i64 0] 66 (0, 0))) ∧ (Own w.heap.size w' 36 5 (.slice A42 N c42) (rows Gs.cv (Gs.fillsC N ps f t x))) ∧ (w'.heap[b2]? = some (.cells (Gs.cv x).toArray 36 (0, 0))) ∧ (Upd no w w')) (fun J3 hJ3 => ?_) (fun gJ3 wJ3 hI => ?_)
    · refine opv_dec (neI _ _ _ _ _) (fun h25 => ?_) (fun h25 => ?_)
      · refine condt ?_
        refine opv_run (ldA (n := 5) (cs' := (Gs.cv x).toArray) (by kernel_rfl) h_b2 (by first | exact Nat.le_of_ble_eq_true rfl | (simp; done) | omega) (by rfl)) ?_
        refine callF_ex (c_Plane_Fill h_bq42 own42 hql (i := t) (j := f) (x := x) hN) (fun v26 w26 D26 => ?_)
        obtain ⟨rfl, N26, U26⟩ := D26
        have own42_o := own42
        replace h_bp := U26.get h_bp nx11_h_bp_own42
        replace own_p := own_p.updS U26 nx11_own_p_own42
        replace h_bq42 := U26.get h_bq42 (fun h => by first | (have := Own.ge own42_o h; omega) | exact Own.ne_blk own42_o h_bq42 (by decide) _ h rfl | exact Own.not_loop own42_o h_bq42 (by assumption) _ h rfl | exact Own.not_def own42_o h_bq42 _ h rfl | simp_all)
        replace own42 := N26
        replace h_b2 := U26.get h_b2 nx11_h_b2_own42
        replace hF := hF.go U26 (fun i h hs => by first | exact hs | exact .inl hs | exact .inr hs | (have := (Own.ge own42_o hs).1; omega))
        clear own42_o
        rw [hN] at own42
        rw [hN]
        first | refine opv_run (add_i64 _ (by omega)) ?_ | refine opv_run (addI _ _ _ _) ?_
        refine hJ3 _ _ ?_
        exact ⟨(by unfold Gs.fillsN; first | (rw [if_pos (by omega)]; rfl) | (rw [if_neg (by assumption)]; rfl)), h_bp, own_p, h_bq42, (by unfold Gs.fillsC; first | (rw [if_pos (by omega)]; exact own42) | (rw [if_neg (by assumption)]; exact own42)), h_b2, hF⟩
      · refine condf ?_
        refine hJ3 _ _ ?_
        exact ⟨(by unfold Gs.fillsN; first | (rw [if_pos (by omega)]; rfl) | (rw [if_neg (by assumption)]; rfl)), h_bp, own_p, h_bq42, (by unfold Gs.fillsC; first | (rw [if_pos (by omega)]; exact own42) | (rw [if_neg (by assumption)]; exact own42)), h_b2, hF⟩
    · obtain ⟨g18, h_bp, own_p, h_bq42, own42, h_b2, hF⟩ := hI
      try rw [g18]
      have hqa : N = (Gs.fillsC N ps f t x).length := Gs.fillsC_len hpl
      refine join_cut (fun g w' => (w'.heap[bp]? = some (.cells #[.int .i64 r, .int .i64 c, .slice (some ⟨gp, 0, none⟩) N N, .int .i64 0] 66 (0, 0))) ∧ (Own w.heap.size w' 36 5 (.slice (some ⟨gp, 0, none⟩) N N) (rows Gs.cv ps)) ∧ (w'.heap[bq42]? = some (.cells #[.int .i64 r, .int .i64 c, .slice A42 N c42, .int .i64 0] 66 (0, 0))) ∧ (Own w.heap.size w' 36 5 (.slice A42 N c42) (rows Gs.cv (Gs.fillsC N ps f t x))) ∧ (w'.heap[b2]? = some (.cells (Gs.cv x).toArray 36 (0, 0))) ∧ (Upd no w w')) (fun J4 hJ4 => ?_) (fun gJ4 wJ4 hI => ?_)
      · refine callF_val (c_Plane_Len h_bp own_p hpl) (fun w27 U27 => ?_)
        replace own_p := own_p.upd0 U27
        replace own42 := own42.upd0 U27
        replace h_bp := U27.get0 h_bp
        replace h_bq42 := U27.get0 h_bq42
        replace h_b2 := U27.get0 h_b2
        replace hF := hF.go0 U27
        refine loop_intro (fun g w' => ∃ (k : Nat), (g 99 = .int .i64 (k : Int)) ∧ (k ≤ N) ∧ (w'.heap[bp]? = some (.cells #[.int .i64 r, .int .i64 c, .slice (some ⟨gp, 0, none⟩) N N, .int .i64 0] 66 (0, 0))) ∧ (Own w.heap.size w' 36 5 (.slice (some ⟨gp, 0, none⟩) N N) (rows Gs.cv ps)) ∧ (w'.heap[bq42]? = some (.cells #[.int .i64 r, .int .i64 c, .slice A42 N c42, .int .i64 0] 66 (0, 0))) ∧ (Own w.heap.size w' 36 5 (.slice A42 N c42) (rows Gs.cv (Gs.fillsC N ps f t x))) ∧ (w'.heap[b2]? = some (.cells (Gs.cv x).toArray 36 (0, 0))) ∧ (Upd no w w')) (fun g w' => N - (RowKit.intOf (g 99)).toNat) ?_ (fun g5 wl5 hI => ?_)
        · exact ⟨0, (by first | exact g99 | rfl), Nat.zero_le _, h_bp, own_p, h_bq42, own42, h_b2, hF⟩
        · obtain ⟨k, g99, hk, h_bp, own_p, h_bq42, own42, h_b2, hF⟩ := hI
          try rw [g99]
          refine opv_dec (lss _ _ _ _) (fun h28 => ?_) (fun h28 => ?_)
          · refine condt ?_
            refine drawn_S (S := no) (fun w29 U29 => ?_)
            replace own_p := own_p.upd0 U29
            replace own42 := own42.upd0 U29
            replace h_bp := U29.get0 h_bp
            replace h_bq42 := U29.get0 h_bq42
            replace h_b2 := U29.get0 h_b2
            replace hF := hF.go0 U29
            refine qop_call (fun w' hw' => by have h_bq42 := hw'.get0 h_bq42; have own42 := own42.upd0 hw'; exact c_Plane_At h_bq42 own42 hqa (i := (k : Int))) ?_
            refine qop_run (fun w' hw' => by have h_b2 := hw'.get0 h_b2; exact (ldA (n := 5) (cs' := (Gs.cv x).toArray) (by kernel_rfl) h_b2 (by first | exact Nat.le_of_ble_eq_true rfl | (simp; done) | omega) (by rfl))) ?_
            refine qop_F (fun w' hw' => (ne_Cell _)) (fun hne => hne (Gs.fills_all hpl hf ht (by omega))) ?_
            refine ext_intro (fun w31 U31 => ?_)
            replace own_p := own_p.upd0 U31
            replace own42 := own42.upd0 U31
            replace h_bp := U31.get0 h_bp
            replace h_bq42 := U31.get0 h_bq42
            replace h_b2 := U31.get0 h_b2
            replace hF := hF.go0 U31
            refine condf ?_
            first | refine opv_run (add_i64 _ (by omega)) ?_ | refine opv_run (addI _ _ _ _) ?_
            exact ⟨⟨k + 1, (by first | exact g99 | rfl), by omega, h_bp, own_p, h_bq42, own42, h_b2, hF⟩, cnt_lt (by first | rfl | exact g99) rfl (by omega)⟩
          · refine condf ?_
            refine hJ4 _ _ ?_
            exact ⟨h_bp, own_p, h_bq42, own42, h_b2, hF⟩
      · obtain ⟨h_bp, own_p, h_bq42, own42, h_b2, hF⟩ := hI
        refine callF_val (c_Plane_Len h_bp own_p hpl) (fun w32 U32 => ?_)
        replace own_p := own_p.upd0 U32
        replace own42 := own42.upd0 U32
        replace h_bp := U32.get0 h_bp
        replace h_bq42 := U32.get0 h_bq42
        replace h_b2 := U32.get0 h_b2
        replace hF := hF.go0 U32
        refine opv_T (eqI _ _ _ _ _) (Gs.fills_n hf ht) ?_
        refine gdtt ?_
        refine gdtt ?_
        refine callF_val (c_Plane_Cursor h_bq42 own42 hqa) (fun w33 U33 => ?_)
        replace own_p := own_p.upd0 U33
        replace own42 := own42.upd0 U33
        replace h_bp := U33.get0 h_bp
        replace h_bq42 := U33.get0 h_bq42
        replace h_b2 := U33.get0 h_b2
        replace hF := hF.go0 U33
        refine gdtt ?_
        refine gdtt ?_
        refine callF_val (c_Plane_Cursor h_bp own_p hpl) (fun w34 U34 => ?_)
        replace own_p := own_p.upd0 U34
        replace own42 := own42.upd0 U34
        replace h_bp := U34.get0 h_bp
        replace h_bq42 := U34.get0 h_bq42
        replace h_b2 := U34.get0 h_b2
        replace hF := hF.go0 U34
        refine gdtt ?_
        refine opv_T (eqI _ _ _ _ _) (by first | rfl | assumption | omega | decide +kernel) ?_
        refine pickt ?_
        refine gdtt ?_
        refine gdtt ?_
        refine opv_run (ldA (n := 5) (cs' := (Gs.cv x).toArray) (by kernel_rfl) h_b2 (by first | exact Nat.le_of_ble_eq_true rfl | (simp; done) | omega) (by rfl)) ?_
        refine gdtt ?_
        refine callF_ex (c_Plane_Fill h_bq42 own42 hqa (i := -1) (j := 0) (x := x) hN) (fun v35 w35 D35 => ?_)
        obtain ⟨rfl, N35, U35⟩ := D35
        have own42_o := own42
        replace h_bp := U35.get h_bp nx11_h_bp_own42
        replace own_p := own_p.updS U35 nx11_own_p_own42
        replace h_bq42 := U35.get h_bq42 (fun h => by first | (have := Own.ge own42_o h; omega) | exact Own.ne_blk own42_o h_bq42 (by decide) _ h rfl | exact Own.not_loop own42_o h_bq42 (by assumption) _ h rfl | exact Own.not_def own42_o h_bq42 _ h rfl | simp_all)
        replace own42 := N35
        replace h_b2 := U35.get h_b2 nx11_h_b2_own42
        replace hF := hF.go U35 (fun i h hs => by first | exact hs | exact .inl hs | exact .inr hs | (have := (Own.ge own42_o hs).1; omega))
        clear own42_o
        refine gdtt ?_
        refine opv_T (eqI _ _ _ _ _) (by rw [hN, Gs.betw_none]; rfl) ?_
        refine pickt ?_
        exact ⟨rfl, hF⟩

end Go.Proofs.YtojcbhkhfcddnaaDoor
