/-
  Contracts of functions of the program, walked over their shallow forms. No condition but the ones that each states.
-/
import Derived.Test.YtkjkmahpkfbbnaaDoorGl
namespace Go.Proofs.YtkjkmahpkfbbnaaDoor
open Go Go.Sh
set_option linter.unusedVariables false
set_option maxRecDepth 100000


set_option maxHeartbeats 2000000 in
/-- greenscreen/greenscreenlaw25.GrammarParses -/
theorem c_law25_GrammarParses {Ab : Option Addr} {nb cb : Nat} {bs : List Int} {gT : Nat} {eT : TypeId} {fT : Nat × Nat} {page : Int} {w : World} (rdb : Rd w Ab (vals .u8 bs)) (hnb : nb = bs.length) (hcb0 : nb ≤ cb) (hbs : Bs bs) (hgT : Tryd.prog.globalNamed "internal/strconv.uint64pow10" = some gT) (h_gT : w.heap[gT]? = some (.cells Gs.powT eT fT))  :
    Calls Tryd.prog 3 #[.slice Ab nb cb, .int .i64 page] w fun e w' => e = .returned (.bool true) ∧ Upd no w w' := by
  refine F3.calls ?_
  unfold F3
  have lt_rdb := rdb.lt
  have lt_h_gT := lt_get h_gT
  have hF : Upd no w w := Fr.refl _ _ _
  refine callF_T (c_law25_alive hgT h_gT) (rfl) (fun w1 U1 => ?_)
  replace rdb := rdb.upd0 U1
  replace h_gT := U1.get0 h_gT
  replace hF := hF.go0 U1
  refine opv_run (notT) ?_
  refine condf ?_
  refine opv_run (len_sl (by kernel_rfl) _ _ _) ?_
  refine opv_dec (gtr _ _ _ _) (fun h2 => ?_) (fun h2 => ?_)
  · refine condt ?_
    first | exact ⟨rfl, hF⟩ | exact ⟨by rw [decide_eq_true hb3], hF⟩ | exact absurd hsame (by assumption) | exact absurd hb3 (by assumption)
  · refine condf ?_
    have hnb6 : bs.length ≤ 600 := by omega
    refine callF_ex (c_gr_Parse rdb hnb hcb0 hbs (by omega)) (fun v4 w4 D4 => ?_)
    obtain ⟨q24, l24, A24, c24, hq24, hi24, rfl, rd24, rdc24, hw24, gA24, gC24, ha24, U4⟩ := D4
    have na_rd24_gT := gA24.ne (lt_get h_gT)
    have na_rdc24_gT := gC24.ne (lt_get h_gT)
    replace rdb := rdb.upd0 U4
    replace h_gT := U4.get0 h_gT
    replace hF := hF.go0 U4
    have hr24 := Gs.inbV_rng (l := bs) hbs
    rw [← hq24] at hr24
    have hs24 := Gs.its_wsum (l := l24) (m := 3000) (by rw [← hi24]; omega)
    have hat24 := Gs.its_of hi24.symm (p := fun p _ => -9223372036854775808 ≤ p ∧ p ≤ 9223372036854775807) (fun y hy => by have := hr24.2.1 y hy; omega)
    refine opv_run (ext_t (by rfl)) ?_
    refine opv_run (ext_t (by rfl)) ?_
    refine alloc_intro (cs := #[.int .u8 0, .bool false, .int .i64 0, .slice none 0 0]) (by kernel_rfl) (fun b5 w5 e5 h_b5 _ U5 => ?_)
    have na_rdb_b5 := rdb.apart e5
    have ne_gT_b5 : gT ≠ b5 := by have := lt_get h_gT; omega
    have na_rd24_b5 := rd24.apart e5
    have na_rdc24_b5 := rdc24.apart e5
    have ge_b5 : w.heap.size ≤ b5 := by have := hF.size; omega
    replace rdb := rdb.upd0 U5
    replace rd24 := rd24.upd0 U5
    replace rdc24 := rdc24.upd0 U5
    replace h_gT := U5.get0 h_gT
    replace hF := hF.go0 U5
    clear e5
    refine store_intro (n := 4) (cs' := #[.int .u8 q24.aid, .bool q24.alone, .int .i64 q24.cur, .slice A24 l24.length c24]) (by kernel_rfl) (by rfl) (by first | rfl | (simp [Value.cells, Value.oneCell', Gs.cv, Gs.ie]; done)) h_b5 (by first | exact Nat.le_of_ble_eq_true rfl | (simp; done) | omega) (by rfl) (fun w6 N6 _ U6 => ?_)
    replace rdb := rdb.upd1 U6 na_rdb_b5
    replace rd24 := rd24.upd1 U6 na_rd24_b5
    replace rdc24 := rdc24.upd1 U6 na_rdc24_b5
    replace h_gT := U6.get1 h_gT ne_gT_b5
    replace h_b5 := N6
    replace hF := hF.go1 U6 ge_b5
    refine callF_ex (c_ref25_Parse rdb hnb hcb0 hbs (by omega)) (fun v7 w7 D7 => ?_)
    obtain ⟨q29, l29, A29, c29, hq29, hi29, rfl, rd29, rdc29, hw29, gA29, gC29, ha29, U7⟩ := D7
    have na_rd29_gT := gA29.ne (lt_get h_gT)
    have na_rd29_b5 := gA29.ne (lt_get h_b5)
    have na_rdc29_gT := gC29.ne (lt_get h_gT)
    have na_rdc29_b5 := gC29.ne (lt_get h_b5)
    replace rdb := rdb.upd0 U7
    replace rd24 := rd24.upd0 U7
    replace rdc24 := rdc24.upd0 U7
    replace h_gT := U7.get0 h_gT
    replace h_b5 := U7.get0 h_b5
    replace hF := hF.go0 U7
    have hr29 := Gs.inbV_rng (l := bs) hbs
    rw [← hq29] at hr29
    have hs29 := Gs.its_wsum (l := l29) (m := 3000) (by rw [← hi29]; omega)
    have hat29 := Gs.its_of hi29.symm (p := fun p _ => -9223372036854775808 ≤ p ∧ p ≤ 9223372036854775807) (fun y hy => by have := hr29.2.1 y hy; omega)
    have hsame : (⟨q24.aid, q24.alone, q24.cur, Gs.its l24⟩ : Gs.Inb) = ⟨q29.aid, q29.alone, q29.cur, Gs.its l29⟩ := by rw [← hi24, ← hi29]; show q24 = q29; rw [hq24, hq29]
    refine opv_run (ext_t (by rfl)) ?_
    refine opv_run (ext_t (by rfl)) ?_
    refine alloc_intro (cs := #[.int .u8 0, .bool false, .int .i64 0, .slice none 0 0]) (by kernel_rfl) (fun b8 w8 e8 h_b8 _ U8 => ?_)
    have na_rdb_b8 := rdb.apart e8
    have ne_gT_b8 : gT ≠ b8 := by have := lt_get h_gT; omega
    have na_rd24_b8 := rd24.apart e8
    have na_rdc24_b8 := rdc24.apart e8
    have ne_b5_b8 : b5 ≠ b8 := by have := lt_get h_b5; omega
    have na_rd29_b8 := rd29.apart e8
    have na_rdc29_b8 := rdc29.apart e8
    have ge_b8 : w.heap.size ≤ b8 := by have := hF.size; omega
    replace rdb := rdb.upd0 U8
    replace rd24 := rd24.upd0 U8
    replace rdc24 := rdc24.upd0 U8
    replace rd29 := rd29.upd0 U8
    replace rdc29 := rdc29.upd0 U8
    replace h_gT := U8.get0 h_gT
    replace h_b5 := U8.get0 h_b5
    replace hF := hF.go0 U8
    clear e8
    refine store_intro (n := 4) (cs' := #[.int .u8 q29.aid, .bool q29.alone, .int .i64 q29.cur, .slice A29 l29.length c29]) (by kernel_rfl) (by rfl) (by first | rfl | (simp [Value.cells, Value.oneCell', Gs.cv, Gs.ie]; done)) h_b8 (by first | exact Nat.le_of_ble_eq_true rfl | (simp; done) | omega) (by rfl) (fun w9 N9 _ U9 => ?_)
    replace rdb := rdb.upd1 U9 na_rdb_b8
    replace rd24 := rd24.upd1 U9 na_rd24_b8
    replace rdc24 := rdc24.upd1 U9 na_rdc24_b8
    replace rd29 := rd29.upd1 U9 na_rd29_b8
    replace rdc29 := rdc29.upd1 U9 na_rdc29_b8
    replace h_gT := U9.get1 h_gT ne_gT_b8
    replace h_b5 := U9.get1 h_b5 ne_b5_b8
    replace h_b8 := N9
    replace hF := hF.go1 U9 ge_b8
    refine callF_ex (c_gr_Buffer rdb hnb hcb0 hbs (by omega)) (fun v10 w10 D10 => ?_)
    obtain ⟨a34, k34, xs34, A34, c34, hq34, rfl, rd34, hw34, gA34, U10⟩ := D10
    have na_rd34_gT := gA34.ne (lt_get h_gT)
    have na_rd34_b5 := gA34.ne (lt_get h_b5)
    have na_rd34_b8 := gA34.ne (lt_get h_b8)
    replace rdb := rdb.upd0 U10
    replace rd24 := rd24.upd0 U10
    replace rdc24 := rdc24.upd0 U10
    replace rd29 := rd29.upd0 U10
    replace rdc29 := rdc29.upd0 U10
    replace h_gT := U10.get0 h_gT
    replace h_b5 := U10.get0 h_b5
    replace h_b8 := U10.get0 h_b8
    replace hF := hF.go0 U10
    refine opv_run (ext_t (by rfl)) ?_
    refine opv_run (ext_t (by rfl)) ?_
    refine opv_run (ext_t (by rfl)) ?_
    refine opv_run (ext_t (by rfl)) ?_
    refine callF_ex (c_ref25_Buffer rdb hnb hcb0 hbs (by omega)) (fun v11 w11 D11 => ?_)
    obtain ⟨a41, k41, xs41, A41, c41, hq41, rfl, rd41, hw41, gA41, U11⟩ := D11
    have na_rd41_gT := gA41.ne (lt_get h_gT)
    have na_rd41_b5 := gA41.ne (lt_get h_b5)
    have na_rd41_b8 := gA41.ne (lt_get h_b8)
    replace rdb := rdb.upd0 U11
    replace rd24 := rd24.upd0 U11
    replace rdc24 := rdc24.upd0 U11
    replace rd29 := rd29.upd0 U11
    replace rdc29 := rdc29.upd0 U11
    replace rd34 := rd34.upd0 U11
    replace h_gT := U11.get0 h_gT
    replace h_b5 := U11.get0 h_b5
    replace h_b8 := U11.get0 h_b8
    replace hF := hF.go0 U11
    obtain ⟨hb1, hb2, hb3⟩ : a34 = a41 ∧ k34 = k41 ∧ xs34 = xs41 := by have h := hq34.trans hq41.symm; simpa only [Prod.mk.injEq] using h
    have hbl : xs34.length ≤ 100000 := by have h := Gs.bufV_len (l := bs); rw [← hq34] at h; dsimp only at h; omega
    refine opv_run (ext_t (by rfl)) ?_
    refine opv_run (ext_t (by rfl)) ?_
    refine opv_run (ext_t (by rfl)) ?_
    refine opv_run (ext_t (by rfl)) ?_
    refine drawn_S (S := no) (fun w12 U12 => ?_)
    replace rdb := rdb.upd0 U12
    replace rd24 := rd24.upd0 U12
    replace rdc24 := rdc24.upd0 U12
    replace rd29 := rd29.upd0 U12
    replace rdc29 := rdc29.upd0 U12
    replace rd34 := rd34.upd0 U12
    replace rd41 := rd41.upd0 U12
    replace h_gT := U12.get0 h_gT
    replace h_b5 := U12.get0 h_b5
    replace h_b8 := U12.get0 h_b8
    replace hF := hF.go0 U12
    refine qop_T (fun w' hw' => (eqI _ _ _ _ _)) (rfl) ?_
    refine qgdtt ?_
    refine qop_run (fun w' hw' => by have h_b5 := hw'.get0 h_b5; exact (ldA (n := 4) (cs' := #[.int .u8 q24.aid, .bool q24.alone, .int .i64 q24.cur, .slice A24 l24.length c24]) (by kernel_rfl) h_b5 (by first | exact Nat.le_of_ble_eq_true rfl | (simp; done) | omega) (by rfl))) ?_
    refine qgdtt ?_
    refine qop_run (fun w' hw' => by have h_b8 := hw'.get0 h_b8; exact (ldA (n := 4) (cs' := #[.int .u8 q29.aid, .bool q29.alone, .int .i64 q29.cur, .slice A29 l29.length c29]) (by kernel_rfl) h_b8 (by first | exact Nat.le_of_ble_eq_true rfl | (simp; done) | omega) (by rfl))) ?_
    refine ext_intro (fun w13 U13 => ?_)
    replace rdb := rdb.upd0 U13
    replace rd24 := rd24.upd0 U13
    replace rdc24 := rdc24.upd0 U13
    replace rd29 := rd29.upd0 U13
    replace rdc29 := rdc29.upd0 U13
    replace rd34 := rd34.upd0 U13
    replace rd41 := rd41.upd0 U13
    replace h_gT := U13.get0 h_gT
    replace h_b5 := U13.get0 h_b5
    replace h_b8 := U13.get0 h_b8
    replace hF := hF.go0 U13
    refine lop_i ?_
    refine gdtt ?_
    refine callF_ex (c_law_as rd24 rfl rdc24 (by omega)) (fun v14 w14 D14 => ?_)
    obtain ⟨A51, c51, rfl, rd51, gA51, U14⟩ := D14
    have na_rd51_gT := gA51.ne (lt_get h_gT)
    have na_rd51_b5 := gA51.ne (lt_get h_b5)
    have na_rd51_b8 := gA51.ne (lt_get h_b8)
    replace rdb := rdb.upd0 U14
    replace rd24 := rd24.upd0 U14
    replace rdc24 := rdc24.upd0 U14
    replace rd29 := rd29.upd0 U14
    replace rdc29 := rdc29.upd0 U14
    replace rd34 := rd34.upd0 U14
    replace rd41 := rd41.upd0 U14
    replace h_gT := U14.get0 h_gT
    replace h_b5 := U14.get0 h_b5
    replace h_b8 := U14.get0 h_b8
    replace hF := hF.go0 U14
    refine ⟨U14, ?_⟩
    refine qgdtt ?_
    refine qop_callb (fun w' hw' => by have rdc24 := rdc24.upd0 hw'; have rd29 := rd29.upd0 hw'; have rdc29 := rdc29.upd0 hw'; have rd51 := rd51.upd0 hw'; exact c_ref25_Same rd51 rfl rdc24 rd29 rfl rdc29 (by omega) (fun x hx => by have := hs24.2 x hx; omega)) (fun h15 => ?_) (fun h15 => ?_)
    · try simp only [decide_eq_true_eq, decide_eq_false_iff_not] at h15
      refine qpickt ?_
      refine qgdtt ?_
      refine qmove ?_
      refine qgdtt ?_
      refine qop_run (fun w' hw' => by have h_b5 := hw'.get0 h_b5; exact (ldA (n := 4) (cs' := #[.int .u8 q24.aid, .bool q24.alone, .int .i64 q24.cur, .slice A24 l24.length c24]) (by kernel_rfl) h_b5 (by first | exact Nat.le_of_ble_eq_true rfl | (simp; done) | omega) (by rfl))) ?_
      refine qgdtt ?_
      refine qop_call (fun w' hw' => by have h_gT := hw'.get0 h_gT; have rd24 := rd24.upd0 hw'; have rdc24 := rdc24.upd0 hw'; exact c_gr_Text (page := page) rd24 rfl rdc24 hgT h_gT ha24 (by omega) hw24 hat24 (by omega) (fun x hx => by have := hs24.2 x hx; omega)) ?_
      refine qgdtt ?_
      refine qmove ?_
      refine qgdtt ?_
      refine qop_run (fun w' hw' => by have h_b8 := hw'.get0 h_b8; exact (ldA (n := 4) (cs' := #[.int .u8 q29.aid, .bool q29.alone, .int .i64 q29.cur, .slice A29 l29.length c29]) (by kernel_rfl) h_b8 (by first | exact Nat.le_of_ble_eq_true rfl | (simp; done) | omega) (by rfl))) ?_
      refine qgdtt ?_
      refine qop_call (fun w' hw' => by have h_gT := hw'.get0 h_gT; have rd29 := rd29.upd0 hw'; have rdc29 := rdc29.upd0 hw'; exact c_ref25_Text (page := page) rd29 rfl rdc29 hgT h_gT ha29 (by omega) hw29 hat29 (by omega) (fun x hx => by have := hs29.2 x hx; omega)) ?_
      refine qgdtt ?_
      refine qop_T (fun w' hw' => (eqS _ _ _ _)) (by rw [hsame]) ?_
      refine qpickt ?_
      refine qgdtt ?_
      refine qmove ?_
      refine qgdtt ?_
      refine qmove ?_
      refine qgdtt ?_
      refine qop_T (fun w' hw' => (eqI _ _ _ _ _)) (rfl) ?_
      refine qpickt ?_
      refine qgdtt ?_
      refine qmove ?_
      refine qgdtt ?_
      refine qmove ?_
      refine qgdtt ?_
      refine qop_T (fun w' hw' => (eqI _ _ _ _ _)) (hb1) ?_
      refine qpickt ?_
      refine qgdtt ?_
      refine qmove ?_
      refine qgdtt ?_
      refine qmove ?_
      refine qgdtt ?_
      refine qop_T (fun w' hw' => (eqI _ _ _ _ _)) (hb2) ?_
      refine qpickt ?_
      refine qgdtt ?_
      refine qmove ?_
      refine qgdtt ?_
      refine qmove ?_
      refine qgdtt ?_
      refine qop_call (fun w' hw' => by have rd34 := rd34.upd0 hw'; have rd41 := rd41.upd0 hw'; exact c_ref14_Same rd34 rfl rd41 rfl hbl) ?_
      refine qpickt ?_
      refine ext_intro (fun w19 U19 => ?_)
      replace rdb := rdb.upd0 U19
      replace rd24 := rd24.upd0 U19
      replace rdc24 := rdc24.upd0 U19
      replace rd29 := rd29.upd0 U19
      replace rdc29 := rdc29.upd0 U19
      replace rd34 := rd34.upd0 U19
      replace rd41 := rd41.upd0 U19
      replace rd51 := rd51.upd0 U19
      replace h_gT := U19.get0 h_gT
      replace h_b5 := U19.get0 h_b5
      replace h_b8 := U19.get0 h_b8
      replace hF := hF.go0 U19
      first | exact ⟨rfl, hF⟩ | exact ⟨by rw [decide_eq_true hb3], hF⟩ | exact absurd hsame (by assumption) | exact absurd hb3 (by assumption)
    · try simp only [decide_eq_true_eq, decide_eq_false_iff_not] at h15
      refine qpickt ?_
      refine qgdft ?_
      refine qgdft ?_
      refine qgdft ?_
      refine qgdft ?_
      refine qgdft ?_
      refine qgdft ?_
      refine qgdft ?_
      refine qpickf ?_
      refine qgdft ?_
      refine qgdft ?_
      refine qgdft ?_
      refine qpickf ?_
      refine qgdft ?_
      refine qgdft ?_
      refine qgdft ?_
      refine qpickf ?_
      refine qgdft ?_
      refine qgdft ?_
      refine qgdft ?_
      refine qpickf ?_
      refine qgdft ?_
      refine qgdft ?_
      refine qgdft ?_
      refine qpickf ?_
      refine ext_intro (fun w21 U21 => ?_)
      replace rdb := rdb.upd0 U21
      replace rd24 := rd24.upd0 U21
      replace rdc24 := rdc24.upd0 U21
      replace rd29 := rd29.upd0 U21
      replace rdc29 := rdc29.upd0 U21
      replace rd34 := rd34.upd0 U21
      replace rd41 := rd41.upd0 U21
      replace rd51 := rd51.upd0 U21
      replace h_gT := U21.get0 h_gT
      replace h_b5 := U21.get0 h_b5
      replace h_b8 := U21.get0 h_b8
      replace hF := hF.go0 U21
      first | exact ⟨rfl, hF⟩ | exact ⟨by rw [decide_eq_true hb3], hF⟩ | exact absurd hsame (by assumption) | exact absurd hb3 (by assumption)

end Go.Proofs.YtkjkmahpkfbbnaaDoor
