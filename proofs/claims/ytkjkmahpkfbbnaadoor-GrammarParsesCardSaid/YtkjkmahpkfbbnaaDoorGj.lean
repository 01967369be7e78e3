/-
  Contracts of functions of the program, walked over their shallow forms. No condition but the ones that each states.
-/
import Derived.Test.YtkjkmahpkfbbnaaDoorGi
namespace Go.Proofs.YtkjkmahpkfbbnaaDoor
open Go Go.Sh
set_option linter.unusedVariables false
set_option maxRecDepth 100000


theorem okW_len {i : Gs.Inb} {n : Int} : (Gs.okL (Gs.writeM i n)).length ≤ 3 + Gs.wsum i.items := by
  cases hr : Gs.writeM i n with
  | ok l => exact Gs.writeM_len hr
  | error e => exact Nat.zero_le _

set_option maxHeartbeats 2000000 in
/-- greenscreen/greenscreenlaw25.GrammarWrites -/
theorem c_law25_GrammarWrites {aid1 cur1 : Int} {al1 : Bool} {A1 : Option Addr} {n1 cp1 : Nat} {l1 : List Gs.It} {aid2 cur2 : Int} {al2 : Bool} {A2 : Option Addr} {n2 cp2 : Nat} {l2 : List Gs.It} {gT : Nat} {eT : TypeId} {fT : Nat × Nat} {tot page : Int} {w : World} (rd1 : Rd w A1 (rows Gs.ie l1)) (hn1 : n1 = l1.length) (rdc1 : Gs.Cl w l1) (rd2 : Rd w A2 (rows Gs.ie l2)) (hn2 : n2 = l2.length) (rdc2 : Gs.Cl w l2) (hgT : Tryd.prog.globalNamed "internal/strconv.uint64pow10" = some gT) (h_gT : w.heap[gT]? = some (.cells Gs.powT eT fT)) (ha1 : 0 ≤ aid1 ∧ aid1 ≤ 255) (hcp1 : n1 ≤ cp1) (hcur1 : -9223372036854775808 ≤ cur1 ∧ cur1 ≤ 9223372036854775807) (hiw1 : Gs.Iw l1) (hat1 : ∀ x ∈ l1, -9223372036854775808 ≤ x.at' ∧ x.at' ≤ 9223372036854775807) (hbd1 : n1 ≤ 9223372036854775807) (ha2 : 0 ≤ aid2 ∧ aid2 ≤ 255) (hcp2 : n2 ≤ cp2) (hcur2 : -9223372036854775808 ≤ cur2 ∧ cur2 ≤ 9223372036854775807) (hiw2 : Gs.Iw l2) (hat2 : ∀ x ∈ l2, -9223372036854775808 ≤ x.at' ∧ x.at' ≤ 9223372036854775807) (hbd2 : n2 ≤ 9223372036854775807)  :
    Calls Tryd.prog 4 #[.agg #[.int .u8 aid1, .bool al1, .int .i64 cur1, .slice A1 n1 cp1], .agg #[.int .u8 aid2, .bool al2, .int .i64 cur2, .slice A2 n2 cp2], .int .i64 tot, .int .i64 page] w fun e w' => e = .returned (.bool true) ∧ Upd no w w' := by
  refine F4.calls ?_
  unfold F4
  have lt_rd1 := rd1.lt
  have lt_rdc1 := rdc1.lt
  have lt_rd2 := rd2.lt
  have lt_rdc2 := rdc2.lt
  have lt_h_gT := lt_get h_gT
  have hF : Upd no w w := Fr.refl _ _ _
  refine box_intro (cs := #[.int .u8 aid1, .bool al1, .int .i64 cur1, .slice A1 n1 cp1]) (by rfl) (fun b1 w1 e1 h_b1 _ U1 => ?_)
  have na_rd1_b1 := rd1.apart e1
  have na_rdc1_b1 := rdc1.apart e1
  have na_rd2_b1 := rd2.apart e1
  have na_rdc2_b1 := rdc2.apart e1
  have ne_gT_b1 : gT ≠ b1 := by have := lt_get h_gT; omega
  have ge_b1 : w.heap.size ≤ b1 := by have := hF.size; omega
  replace rd1 := rd1.upd0 U1
  replace rdc1 := rdc1.upd0 U1
  replace rd2 := rd2.upd0 U1
  replace rdc2 := rdc2.upd0 U1
  replace h_gT := U1.get0 h_gT
  replace hF := hF.go0 U1
  clear e1
  refine box_intro (cs := #[.int .u8 aid2, .bool al2, .int .i64 cur2, .slice A2 n2 cp2]) (by rfl) (fun b2 w2 e2 h_b2 _ U2 => ?_)
  have na_rd1_b2 := rd1.apart e2
  have na_rdc1_b2 := rdc1.apart e2
  have na_rd2_b2 := rd2.apart e2
  have na_rdc2_b2 := rdc2.apart e2
  have ne_gT_b2 : gT ≠ b2 := by have := lt_get h_gT; omega
  have ne_b1_b2 : b1 ≠ b2 := by have := lt_get h_b1; omega
  have ge_b2 : w.heap.size ≤ b2 := by have := hF.size; omega
  replace rd1 := rd1.upd0 U2
  replace rdc1 := rdc1.upd0 U2
  replace rd2 := rd2.upd0 U2
  replace rdc2 := rdc2.upd0 U2
  replace h_gT := U2.get0 h_gT
  replace h_b1 := U2.get0 h_b1
  replace hF := hF.go0 U2
  clear e2
  refine callF_T (c_law25_alive hgT h_gT) (rfl) (fun w3 U3 => ?_)
  replace rd1 := rd1.upd0 U3
  replace rdc1 := rdc1.upd0 U3
  replace rd2 := rd2.upd0 U3
  replace rdc2 := rdc2.upd0 U3
  replace h_gT := U3.get0 h_gT
  replace h_b1 := U3.get0 h_b1
  replace h_b2 := U3.get0 h_b2
  replace hF := hF.go0 U3
  refine opv_run (notT) ?_
  refine condf ?_
  refine opv_run (ldA (n := 4) (cs' := #[.int .u8 aid1, .bool al1, .int .i64 cur1, .slice A1 n1 cp1]) (by kernel_rfl) h_b1 (by first | exact Nat.le_of_ble_eq_true rfl | (simp; done) | omega) (by rfl)) ?_
  refine callF_bool (c_law_few rd1 hn1 rdc1 hbd1) (fun w4 U4 h4 => ?_) (fun w4 U4 h4 => ?_)
  · replace rd1 := rd1.upd0 U4
    replace rdc1 := rdc1.upd0 U4
    replace rd2 := rd2.upd0 U4
    replace rdc2 := rdc2.upd0 U4
    replace h_gT := U4.get0 h_gT
    replace h_b1 := U4.get0 h_b1
    replace h_b2 := U4.get0 h_b2
    replace hF := hF.go0 U4
    try simp only [decide_eq_true_eq, decide_eq_false_iff_not] at h4
    refine opv_run (notT) ?_
    refine gdff ?_
    refine opv_run (ldA (n := 4) (cs' := #[.int .u8 aid2, .bool al2, .int .i64 cur2, .slice A2 n2 cp2]) (by kernel_rfl) h_b2 (by first | exact Nat.le_of_ble_eq_true rfl | (simp; done) | omega) (by rfl)) ?_
    refine gdff ?_
    refine callF_bool (c_law_few rd2 hn2 rdc2 hbd2) (fun w5 U5 h5 => ?_) (fun w5 U5 h5 => ?_)
    · replace rd1 := rd1.upd0 U5
      replace rdc1 := rdc1.upd0 U5
      replace rd2 := rd2.upd0 U5
      replace rdc2 := rdc2.upd0 U5
      replace h_gT := U5.get0 h_gT
      replace h_b1 := U5.get0 h_b1
      replace h_b2 := U5.get0 h_b2
      replace hF := hF.go0 U5
      try simp only [decide_eq_true_eq, decide_eq_false_iff_not] at h5
      refine gdff ?_
      refine opv_run (notT) ?_
      refine pickf ?_
      refine condf ?_
      have hfw1 := Gs.few_of (l := l1) (by assumption)
      have hfw2 := Gs.few_of (l := l2) (by assumption)
      have hlw : (Gs.okL (Gs.writeM ⟨aid1, al1, cur1, Gs.its l1⟩ tot)).length ≤ 2463 := by have h1 := okW_len (i := ⟨aid1, al1, cur1, Gs.its l1⟩) (n := tot); have h2 := Gs.few_wsum hfw1; dsimp only at h1; omega
      refine opv_run (ldA (n := 4) (cs' := #[.int .u8 aid1, .bool al1, .int .i64 cur1, .slice A1 n1 cp1]) (by kernel_rfl) h_b1 (by first | exact Nat.le_of_ble_eq_true rfl | (simp; done) | omega) (by rfl)) ?_
      refine callF_ex (c_gr_Write (tot := tot) rd1 hn1 rdc1 (by omega) (fun x hx => by have := hfw1.2 x hx; omega)) (fun v6 w6 D6 => ?_)
      obtain ⟨u26, rfl, own26, U6⟩ := D6
      obtain ⟨A26, c26, rfl, rd26⟩ := own26.rd1
      have nx6_rd1_own26 : _ ∨ ∀ k, _ → ¬ ownS _ k := (rd1.lt).imp_right fun h k hk hs => by have := h k hk; have := (Own.ge own26 hs).1; omega
      have nx6_rdc1_own26 : _ ∨ ∀ k, _ → ¬ ownS _ k := (rdc1.lt).imp_right fun h k hk hs => by have := h k hk; have := (Own.ge own26 hs).1; omega
      have nx6_rd2_own26 : _ ∨ ∀ k, _ → ¬ ownS _ k := (rd2.lt).imp_right fun h k hk hs => by have := h k hk; have := (Own.ge own26 hs).1; omega
      have nx6_rdc2_own26 : _ ∨ ∀ k, _ → ¬ ownS _ k := (rdc2.lt).imp_right fun h k hk hs => by have := h k hk; have := (Own.ge own26 hs).1; omega
      have nx6_h_gT_own26 : ¬ ownS _ gT := fun h => by have := (Own.ge own26 h).1; have := lt_get h_gT; omega
      have nx6_h_b1_own26 : ¬ ownS _ b1 := fun h => by have := (Own.ge own26 h).1; have := lt_get h_b1; omega
      have nx6_h_b2_own26 : ¬ ownS _ b2 := fun h => by have := (Own.ge own26 h).1; have := lt_get h_b2; omega
      replace own26 := own26.mono (B' := w.heap.size) hF.size
      replace rd1 := rd1.upd0 U6
      replace rdc1 := rdc1.upd0 U6
      replace rd2 := rd2.upd0 U6
      replace rdc2 := rdc2.upd0 U6
      replace h_gT := U6.get0 h_gT
      replace h_b1 := U6.get0 h_b1
      replace h_b2 := U6.get0 h_b2
      replace hF := hF.go0 U6
      refine opv_run (ext_t (by rfl)) ?_
      refine opv_run (ext_t (by rfl)) ?_
      refine opv_run (ldA (n := 4) (cs' := #[.int .u8 aid1, .bool al1, .int .i64 cur1, .slice A1 n1 cp1]) (by kernel_rfl) h_b1 (by first | exact Nat.le_of_ble_eq_true rfl | (simp; done) | omega) (by rfl)) ?_
      refine callF_ex (c_law_as rd1 hn1 rdc1 (by omega)) (fun v7 w7 D7 => ?_)
      obtain ⟨A31, c31, rfl, rd31, gA31, U7⟩ := D7
      have na_rd31_gT := gA31.ne (lt_get h_gT)
      have na_rd31_b1 := gA31.ne (lt_get h_b1)
      have na_rd31_b2 := gA31.ne (lt_get h_b2)
      have na_rd31_own26 : _ ∨ ∀ k, _ → ¬ ownS _ k := gA31.imp_right fun h k hk hs => by have := h k hk; have := (Own.ge own26 hs).2; omega
      replace rd1 := rd1.upd0 U7
      replace rdc1 := rdc1.upd0 U7
      replace rd2 := rd2.upd0 U7
      replace rdc2 := rdc2.upd0 U7
      replace own26 := own26.upd0 U7
      replace h_gT := U7.get0 h_gT
      replace h_b1 := U7.get0 h_b1
      replace h_b2 := U7.get0 h_b2
      replace hF := hF.go0 U7
      refine callF_ex (c_ref25_Write (tot := tot) rd31 rfl rdc1 hiw1 (by omega) (fun x hx => by have := hfw1.2 x hx; omega)) (fun v8 w8 D8 => ?_)
      obtain ⟨u33, rfl, own33, U8⟩ := D8
      obtain ⟨A33, c33, rfl, rd33⟩ := own33.rd1
      have nx8_rd1_own33 : _ ∨ ∀ k, _ → ¬ ownS _ k := (rd1.lt).imp_right fun h k hk hs => by have := h k hk; have := (Own.ge own33 hs).1; omega
      have nx8_rdc1_own33 : _ ∨ ∀ k, _ → ¬ ownS _ k := (rdc1.lt).imp_right fun h k hk hs => by have := h k hk; have := (Own.ge own33 hs).1; omega
      have nx8_rd2_own33 : _ ∨ ∀ k, _ → ¬ ownS _ k := (rd2.lt).imp_right fun h k hk hs => by have := h k hk; have := (Own.ge own33 hs).1; omega
      have nx8_rdc2_own33 : _ ∨ ∀ k, _ → ¬ ownS _ k := (rdc2.lt).imp_right fun h k hk hs => by have := h k hk; have := (Own.ge own33 hs).1; omega
      have nx8_h_gT_own33 : ¬ ownS _ gT := fun h => by have := (Own.ge own33 h).1; have := lt_get h_gT; omega
      have nx8_h_b1_own33 : ¬ ownS _ b1 := fun h => by have := (Own.ge own33 h).1; have := lt_get h_b1; omega
      have nx8_h_b2_own33 : ¬ ownS _ b2 := fun h => by have := (Own.ge own33 h).1; have := lt_get h_b2; omega
      have nx8_own26_own33 : ∀ k, ownS _ k → ¬ ownS _ k := fun k hk hs => by have := (Own.ge own26 hk).2; have := (Own.ge own33 hs).1; omega
      have nx8_rd31_own33 : _ ∨ ∀ k, _ → ¬ ownS _ k := (rd31.lt).imp_right fun h k hk hs => by have := h k hk; have := (Own.ge own33 hs).1; omega
      replace own33 := own33.mono (B' := w.heap.size) hF.size
      replace rd1 := rd1.upd0 U8
      replace rdc1 := rdc1.upd0 U8
      replace rd2 := rd2.upd0 U8
      replace rdc2 := rdc2.upd0 U8
      replace own26 := own26.upd0 U8
      replace rd31 := rd31.upd0 U8
      replace h_gT := U8.get0 h_gT
      replace h_b1 := U8.get0 h_b1
      replace h_b2 := U8.get0 h_b2
      replace hF := hF.go0 U8
      refine opv_run (ext_t (by rfl)) ?_
      refine opv_run (ext_t (by rfl)) ?_
      refine drawn_S (S := no) (fun w9 U9 => ?_)
      replace rd1 := rd1.upd0 U9
      replace rdc1 := rdc1.upd0 U9
      replace rd2 := rd2.upd0 U9
      replace rdc2 := rdc2.upd0 U9
      replace own26 := own26.upd0 U9
      replace rd31 := rd31.upd0 U9
      replace own33 := own33.upd0 U9
      replace h_gT := U9.get0 h_gT
      replace h_b1 := U9.get0 h_b1
      replace h_b2 := U9.get0 h_b2
      replace hF := hF.go0 U9
      refine qop_T (fun w' hw' => (eqI _ _ _ _ _)) (rfl) ?_
      refine qgdtt ?_
      refine qmove ?_
      refine qgdtt ?_
      refine qmove ?_
      refine qgdtt ?_
      refine qop_callb (fun w' hw' => by have own26 := own26.upd0 hw'; have own33 := own33.upd0 hw'; exact c_ref01_Same own26.rdS rfl own33.rdS rfl (by omega)) (fun h10 => ?_) (fun h10 => ?_)
      · try simp only [decide_eq_true_eq, decide_eq_false_iff_not] at h10
        refine qpickt ?_
        refine qgdtt ?_
        refine qmove ?_
        refine qgdtt ?_
        refine qop_run (fun w' hw' => by have h_b1 := hw'.get0 h_b1; exact (ldA (n := 4) (cs' := #[.int .u8 aid1, .bool al1, .int .i64 cur1, .slice A1 n1 cp1]) (by kernel_rfl) h_b1 (by first | exact Nat.le_of_ble_eq_true rfl | (simp; done) | omega) (by rfl))) ?_
        refine qgdtt ?_
        refine qop_call (fun w' hw' => by have rd1 := rd1.upd0 hw'; have rdc1 := rdc1.upd0 hw'; have h_gT := hw'.get0 h_gT; exact c_gr_Text (page := page) rd1 hn1 rdc1 hgT h_gT ha1 hcur1 hiw1 hat1 (by omega) (fun x hx => by have := hfw1.2 x hx; omega)) ?_
        refine qgdtt ?_
        refine qmove ?_
        refine qgdtt ?_
        refine qop_run (fun w' hw' => by have h_b1 := hw'.get0 h_b1; exact (ldA (n := 4) (cs' := #[.int .u8 aid1, .bool al1, .int .i64 cur1, .slice A1 n1 cp1]) (by kernel_rfl) h_b1 (by first | exact Nat.le_of_ble_eq_true rfl | (simp; done) | omega) (by rfl))) ?_
        refine ext_intro (fun w12 U12 => ?_)
        replace rd1 := rd1.upd0 U12
        replace rdc1 := rdc1.upd0 U12
        replace rd2 := rd2.upd0 U12
        replace rdc2 := rdc2.upd0 U12
        replace own26 := own26.upd0 U12
        replace rd31 := rd31.upd0 U12
        replace own33 := own33.upd0 U12
        replace h_gT := U12.get0 h_gT
        replace h_b1 := U12.get0 h_b1
        replace h_b2 := U12.get0 h_b2
        replace hF := hF.go0 U12
        refine lop_i ?_
        refine gdtt ?_
        refine callF_ex (c_law_as rd1 hn1 rdc1 (by omega)) (fun v13 w13 D13 => ?_)
        obtain ⟨A50, c50, rfl, rd50, gA50, U13⟩ := D13
        have na_rd50_gT := gA50.ne (lt_get h_gT)
        have na_rd50_b1 := gA50.ne (lt_get h_b1)
        have na_rd50_b2 := gA50.ne (lt_get h_b2)
        have na_rd50_own26 : _ ∨ ∀ k, _ → ¬ ownS _ k := gA50.imp_right fun h k hk hs => by have := h k hk; have := (Own.ge own26 hs).2; omega
        have na_rd50_own33 : _ ∨ ∀ k, _ → ¬ ownS _ k := gA50.imp_right fun h k hk hs => by have := h k hk; have := (Own.ge own33 hs).2; omega
        replace rd1 := rd1.upd0 U13
        replace rdc1 := rdc1.upd0 U13
        replace rd2 := rd2.upd0 U13
        replace rdc2 := rdc2.upd0 U13
        replace own26 := own26.upd0 U13
        replace rd31 := rd31.upd0 U13
        replace own33 := own33.upd0 U13
        replace h_gT := U13.get0 h_gT
        replace h_b1 := U13.get0 h_b1
        replace h_b2 := U13.get0 h_b2
        replace hF := hF.go0 U13
        refine ⟨U13, ?_⟩
        refine qgdtt ?_
        refine qop_call (fun w' hw' => by have rdc1 := rdc1.upd0 hw'; have h_gT := hw'.get0 h_gT; have rd50 := rd50.upd0 hw'; exact c_ref25_Text (page := page) rd50 rfl rdc1 hgT h_gT ha1 hcur1 hiw1 hat1 (by omega) (fun x hx => by have := hfw1.2 x hx; omega)) ?_
        refine qgdtt ?_
        refine qop_T (fun w' hw' => (eqS _ _ _ _)) (rfl) ?_
        refine qpickt ?_
        refine qgdtt ?_
        refine qop_run (fun w' hw' => by have h_b1 := hw'.get0 h_b1; exact (ldA (n := 4) (cs' := #[.int .u8 aid1, .bool al1, .int .i64 cur1, .slice A1 n1 cp1]) (by kernel_rfl) h_b1 (by first | exact Nat.le_of_ble_eq_true rfl | (simp; done) | omega) (by rfl))) ?_
        refine qgdtt ?_
        refine qop_run (fun w' hw' => by have h_b2 := hw'.get0 h_b2; exact (ldA (n := 4) (cs' := #[.int .u8 aid2, .bool al2, .int .i64 cur2, .slice A2 n2 cp2]) (by kernel_rfl) h_b2 (by first | exact Nat.le_of_ble_eq_true rfl | (simp; done) | omega) (by rfl))) ?_
        refine qgdtt ?_
        refine qop_call (fun w' hw' => by have rd1 := rd1.upd0 hw'; have rdc1 := rdc1.upd0 hw'; have rd2 := rd2.upd0 hw'; have rdc2 := rdc2.upd0 hw'; exact c_gr_Same rd1 hn1 rdc1 rd2 hn2 rdc2 (by omega) (fun x hx => by have := hfw1.2 x hx; omega)) ?_
        refine qgdtt ?_
        refine qop_run (fun w' hw' => by have h_b1 := hw'.get0 h_b1; exact (ldA (n := 4) (cs' := #[.int .u8 aid1, .bool al1, .int .i64 cur1, .slice A1 n1 cp1]) (by kernel_rfl) h_b1 (by first | exact Nat.le_of_ble_eq_true rfl | (simp; done) | omega) (by rfl))) ?_
        refine qgdtt ?_
        refine qop_run (fun w' hw' => by have h_b2 := hw'.get0 h_b2; exact (ldA (n := 4) (cs' := #[.int .u8 aid2, .bool al2, .int .i64 cur2, .slice A2 n2 cp2]) (by kernel_rfl) h_b2 (by first | exact Nat.le_of_ble_eq_true rfl | (simp; done) | omega) (by rfl))) ?_
        refine ext_intro (fun w16 U16 => ?_)
        replace rd1 := rd1.upd0 U16
        replace rdc1 := rdc1.upd0 U16
        replace rd2 := rd2.upd0 U16
        replace rdc2 := rdc2.upd0 U16
        replace own26 := own26.upd0 U16
        replace rd31 := rd31.upd0 U16
        replace own33 := own33.upd0 U16
        replace rd50 := rd50.upd0 U16
        replace h_gT := U16.get0 h_gT
        replace h_b1 := U16.get0 h_b1
        replace h_b2 := U16.get0 h_b2
        replace hF := hF.go0 U16
        refine lop_i ?_
        refine gdtt ?_
        refine callF_ex (c_law_as rd1 hn1 rdc1 (by omega)) (fun v17 w17 D17 => ?_)
        obtain ⟨A59, c59, rfl, rd59, gA59, U17⟩ := D17
        have na_rd59_gT := gA59.ne (lt_get h_gT)
        have na_rd59_b1 := gA59.ne (lt_get h_b1)
        have na_rd59_b2 := gA59.ne (lt_get h_b2)
        have na_rd59_own26 : _ ∨ ∀ k, _ → ¬ ownS _ k := gA59.imp_right fun h k hk hs => by have := h k hk; have := (Own.ge own26 hs).2; omega
        have na_rd59_own33 : _ ∨ ∀ k, _ → ¬ ownS _ k := gA59.imp_right fun h k hk hs => by have := h k hk; have := (Own.ge own33 hs).2; omega
        replace rd1 := rd1.upd0 U17
        replace rdc1 := rdc1.upd0 U17
        replace rd2 := rd2.upd0 U17
        replace rdc2 := rdc2.upd0 U17
        replace own26 := own26.upd0 U17
        replace rd31 := rd31.upd0 U17
        replace own33 := own33.upd0 U17
        replace rd50 := rd50.upd0 U17
        replace h_gT := U17.get0 h_gT
        replace h_b1 := U17.get0 h_b1
        replace h_b2 := U17.get0 h_b2
        replace hF := hF.go0 U17
        refine ⟨U17, ?_⟩
        refine ext_intro (fun w18 U18 => ?_)
        replace rd1 := rd1.upd0 U18
        replace rdc1 := rdc1.upd0 U18
        replace rd2 := rd2.upd0 U18
        replace rdc2 := rdc2.upd0 U18
        replace own26 := own26.upd0 U18
        replace rd31 := rd31.upd0 U18
        replace own33 := own33.upd0 U18
        replace rd50 := rd50.upd0 U18
        replace rd59 := rd59.upd0 U18
        replace h_gT := U18.get0 h_gT
        replace h_b1 := U18.get0 h_b1
        replace h_b2 := U18.get0 h_b2
        replace hF := hF.go0 U18
        refine lop_i ?_
        refine gdtt ?_
        refine callF_ex (c_law_as rd2 hn2 rdc2 (by omega)) (fun v19 w19 D19 => ?_)
        obtain ⟨A61, c61, rfl, rd61, gA61, U19⟩ := D19
        have na_rd61_gT := gA61.ne (lt_get h_gT)
        have na_rd61_b1 := gA61.ne (lt_get h_b1)
        have na_rd61_b2 := gA61.ne (lt_get h_b2)
        have na_rd61_own26 : _ ∨ ∀ k, _ → ¬ ownS _ k := gA61.imp_right fun h k hk hs => by have := h k hk; have := (Own.ge own26 hs).2; omega
        have na_rd61_own33 : _ ∨ ∀ k, _ → ¬ ownS _ k := gA61.imp_right fun h k hk hs => by have := h k hk; have := (Own.ge own33 hs).2; omega
        replace rd1 := rd1.upd0 U19
        replace rdc1 := rdc1.upd0 U19
        replace rd2 := rd2.upd0 U19
        replace rdc2 := rdc2.upd0 U19
        replace own26 := own26.upd0 U19
        replace rd31 := rd31.upd0 U19
        replace own33 := own33.upd0 U19
        replace rd50 := rd50.upd0 U19
        replace rd59 := rd59.upd0 U19
        replace h_gT := U19.get0 h_gT
        replace h_b1 := U19.get0 h_b1
        replace h_b2 := U19.get0 h_b2
        replace hF := hF.go0 U19
        refine ⟨U19, ?_⟩
        refine qgdtt ?_
        refine qop_call (fun w' hw' => by have rdc1 := rdc1.upd0 hw'; have rdc2 := rdc2.upd0 hw'; have rd59 := rd59.upd0 hw'; have rd61 := rd61.upd0 hw'; exact c_ref25_Same rd59 rfl rdc1 rd61 rfl rdc2 (by omega) (fun x hx => by have := hfw1.2 x hx; omega)) ?_
        refine qgdtt ?_
        refine qop_run (fun w' hw' => (eqB _ _ (by kernel_rfl) _ _)) ?_
        refine qpickt ?_
        refine ext_intro (fun w21 U21 => ?_)
        replace rd1 := rd1.upd0 U21
        replace rdc1 := rdc1.upd0 U21
        replace rd2 := rd2.upd0 U21
        replace rdc2 := rdc2.upd0 U21
        replace own26 := own26.upd0 U21
        replace rd31 := rd31.upd0 U21
        replace own33 := own33.upd0 U21
        replace rd50 := rd50.upd0 U21
        replace rd59 := rd59.upd0 U21
        replace rd61 := rd61.upd0 U21
        replace h_gT := U21.get0 h_gT
        replace h_b1 := U21.get0 h_b1
        replace h_b2 := U21.get0 h_b2
        replace hF := hF.go0 U21
        first | exact ⟨rfl, hF⟩ | (exfalso; contradiction) | exact absurd rfl (by assumption) | exact ⟨by simp, hF⟩
      · try simp only [decide_eq_true_eq, decide_eq_false_iff_not] at h10
        refine qpickt ?_
        refine qgdft ?_
        refine qgdft ?_
        refine qgdft ?_
        refine qgdft ?_
        refine qgdft ?_
        refine ext_intro (fun w23 U23 => ?_)
        replace rd1 := rd1.upd0 U23
        replace rdc1 := rdc1.upd0 U23
        replace rd2 := rd2.upd0 U23
        replace rdc2 := rdc2.upd0 U23
        replace own26 := own26.upd0 U23
        replace rd31 := rd31.upd0 U23
        replace own33 := own33.upd0 U23
        replace h_gT := U23.get0 h_gT
        replace h_b1 := U23.get0 h_b1
        replace h_b2 := U23.get0 h_b2
        replace hF := hF.go0 U23
        refine lop_i ?_
        refine gdft ?_
        refine ⟨Fr.refl _ _ _, ?_⟩
        refine qgdft ?_
        refine qgdft ?_
        refine qpickf ?_
        refine qgdft ?_
        refine qgdft ?_
        refine qgdft ?_
        refine qgdft ?_
        refine qgdft ?_
        refine ext_intro (fun w24 U24 => ?_)
        replace rd1 := rd1.upd0 U24
        replace rdc1 := rdc1.upd0 U24
        replace rd2 := rd2.upd0 U24
        replace rdc2 := rdc2.upd0 U24
        replace own26 := own26.upd0 U24
        replace rd31 := rd31.upd0 U24
        replace own33 := own33.upd0 U24
        replace h_gT := U24.get0 h_gT
        replace h_b1 := U24.get0 h_b1
        replace h_b2 := U24.get0 h_b2
        replace hF := hF.go0 U24
        refine lop_i ?_
        refine gdft ?_
        refine ⟨Fr.refl _ _ _, ?_⟩
        refine ext_intro (fun w25 U25 => ?_)
        replace rd1 := rd1.upd0 U25
        replace rdc1 := rdc1.upd0 U25
        replace rd2 := rd2.upd0 U25
        replace rdc2 := rdc2.upd0 U25
        replace own26 := own26.upd0 U25
        replace rd31 := rd31.upd0 U25
        replace own33 := own33.upd0 U25
        replace h_gT := U25.get0 h_gT
        replace h_b1 := U25.get0 h_b1
        replace h_b2 := U25.get0 h_b2
        replace hF := hF.go0 U25
        refine lop_i ?_
        refine gdft ?_
        refine ⟨Fr.refl _ _ _, ?_⟩
        refine qgdft ?_
        refine qgdft ?_
        refine qpickf ?_
        refine ext_intro (fun w26 U26 => ?_)
        replace rd1 := rd1.upd0 U26
        replace rdc1 := rdc1.upd0 U26
        replace rd2 := rd2.upd0 U26
        replace rdc2 := rdc2.upd0 U26
        replace own26 := own26.upd0 U26
        replace rd31 := rd31.upd0 U26
        replace own33 := own33.upd0 U26
        replace h_gT := U26.get0 h_gT
        replace h_b1 := U26.get0 h_b1
        replace h_b2 := U26.get0 h_b2
        replace hF := hF.go0 U26
        first | exact ⟨rfl, hF⟩ | (exfalso; contradiction) | exact absurd rfl (by assumption) | exact ⟨by simp, hF⟩
    · replace rd1 := rd1.upd0 U5
      replace rdc1 := rdc1.upd0 U5
      replace rd2 := rd2.upd0 U5
      replace rdc2 := rdc2.upd0 U5
      replace h_gT := U5.get0 h_gT
      replace h_b1 := U5.get0 h_b1
      replace h_b2 := U5.get0 h_b2
      replace hF := hF.go0 U5
      try simp only [decide_eq_true_eq, decide_eq_false_iff_not] at h5
      refine gdff ?_
      refine opv_run (notF) ?_
      refine pickf ?_
      refine condt ?_
      first | exact ⟨rfl, hF⟩ | (exfalso; contradiction) | exact absurd rfl (by assumption) | exact ⟨by simp, hF⟩
  · replace rd1 := rd1.upd0 U4
    replace rdc1 := rdc1.upd0 U4
    replace rd2 := rd2.upd0 U4
    replace rdc2 := rdc2.upd0 U4
    replace h_gT := U4.get0 h_gT
    replace h_b1 := U4.get0 h_b1
    replace h_b2 := U4.get0 h_b2
    replace hF := hF.go0 U4
    try simp only [decide_eq_true_eq, decide_eq_false_iff_not] at h4
    refine opv_run (notF) ?_
    refine gdtf ?_
    refine gdtf ?_
    refine gdtf ?_
    refine pickt ?_
    refine condt ?_
    first | exact ⟨rfl, hF⟩ | (exfalso; contradiction) | exact absurd rfl (by assumption) | exact ⟨by simp, hF⟩

end Go.Proofs.YtkjkmahpkfbbnaaDoor
