/-
  Contracts of functions of the program, walked over their shallow forms. No condition but the ones that each states.
-/
import Derived.Test.YtkjkmahpkfbbnaaDoorGf
import Derived.Test.YtkjkmahpkfbbnaaDoorGramSl
import Derived.Test.YtkjkmahpkfbbnaaDoorStrSlice
namespace Go.Proofs.YtkjkmahpkfbbnaaDoor
open Go Go.Sh
set_option linter.unusedVariables false
set_option maxRecDepth 100000


set_option maxHeartbeats 2000000 in
/-- greenscreen/greenscreenlaw25.GrammarItems -/
theorem c_law25_GrammarItems {aid cur : Int} {al : Bool} {A : Option Addr} {n cp : Nat} {l : List Gs.It} {gT : Nat} {eT : TypeId} {fT : Nat × Nat} {tot page : Int} {w : World} (rd : Rd w A (rows Gs.ie l)) (hn : n = l.length) (rdc : Gs.Cl w l) (hgT : Tryd.prog.globalNamed "internal/strconv.uint64pow10" = some gT) (h_gT : w.heap[gT]? = some (.cells Gs.powT eT fT)) (ha : 0 ≤ aid ∧ aid ≤ 255) (hcp : n ≤ cp) (hcur : -9223372036854775808 ≤ cur ∧ cur ≤ 9223372036854775807) (hiw : Gs.Iw l) (hat : ∀ x ∈ l, -9223372036854775808 ≤ x.at' ∧ x.at' ≤ 9223372036854775807) (hbd : n ≤ 9223372036854775807)  :
    Calls Tryd.prog 6 #[.agg #[.int .u8 aid, .bool al, .int .i64 cur, .slice A n cp], .int .i64 tot, .int .i64 page] w fun e w' => e = .returned (.bool true) ∧ Upd no w w' := by
  refine F6.calls ?_
  unfold F6
  have lt_rd := rd.lt
  have lt_rdc := rdc.lt
  have lt_h_gT := lt_get h_gT
  have hF : Upd no w w := Fr.refl _ _ _
  refine box_intro (cs := #[.int .u8 aid, .bool al, .int .i64 cur, .slice A n cp]) (by rfl) (fun b1 w1 e1 h_b1 _ U1 => ?_)
  have na_rd_b1 := rd.apart e1
  have na_rdc_b1 := rdc.apart e1
  have ne_gT_b1 : gT ≠ b1 := by have := lt_get h_gT; omega
  have ge_b1 : w.heap.size ≤ b1 := by have := hF.size; omega
  replace rd := rd.upd0 U1
  replace rdc := rdc.upd0 U1
  replace h_gT := U1.get0 h_gT
  replace hF := hF.go0 U1
  clear e1
  refine callF_T (c_law25_alive hgT h_gT) (rfl) (fun w2 U2 => ?_)
  replace rd := rd.upd0 U2
  replace rdc := rdc.upd0 U2
  replace h_gT := U2.get0 h_gT
  replace h_b1 := U2.get0 h_b1
  replace hF := hF.go0 U2
  refine opv_run (notT) ?_
  refine condf ?_
  refine opv_run (ldA (n := 4) (cs' := #[.int .u8 aid, .bool al, .int .i64 cur, .slice A n cp]) (by kernel_rfl) h_b1 (by first | exact Nat.le_of_ble_eq_true rfl | (simp; done) | omega) (by rfl)) ?_
  refine callF_bool (c_law_few rd hn rdc hbd) (fun w3 U3 h3 => ?_) (fun w3 U3 h3 => ?_)
  · replace rd := rd.upd0 U3
    replace rdc := rdc.upd0 U3
    replace h_gT := U3.get0 h_gT
    replace h_b1 := U3.get0 h_b1
    replace hF := hF.go0 U3
    try simp only [decide_eq_true_eq, decide_eq_false_iff_not] at h3
    refine opv_run (notT) ?_
    refine gdff ?_
    refine opv_run (fieldAt_eq (off := 1) (by kernel_rfl)) ?_
    refine gdff ?_
    refine opv_b (ldC (by kernel_rfl) h_b1 (by rfl)) (fun h4 => ?_) (fun h4 => ?_)
    · refine pickf ?_
      refine gdtf ?_
      refine gdtf ?_
      refine gdtf ?_
      refine gdtf ?_
      refine pickt ?_
      refine condt ?_
      exact ⟨rfl, hF⟩
    · refine pickf ?_
      refine gdff ?_
      refine opv_run (fieldAt_eq (off := 3) (by kernel_rfl)) ?_
      refine gdff ?_
      refine opv_run (ldC (by kernel_rfl) h_b1 (by rfl)) ?_
      refine gdff ?_
      refine opv_run (len_sl (by kernel_rfl) _ _ _) ?_
      refine gdff ?_
      refine opv_dec (lss _ _ _ _) (fun h6 => ?_) (fun h6 => ?_)
      · refine pickf ?_
        refine condt ?_
        exact ⟨rfl, hF⟩
      · refine pickf ?_
        refine condf ?_
        have hfw := Gs.few_of (l := l) (by assumption)
        have hal : al = false := by assumption
        have hl2 : 2 ≤ l.length := by omega
        refine opv_run (ldA (n := 4) (cs' := #[.int .u8 aid, .bool al, .int .i64 cur, .slice A n cp]) (by kernel_rfl) h_b1 (by first | exact Nat.le_of_ble_eq_true rfl | (simp; done) | omega) (by rfl)) ?_
        refine callF_ex (c_gr_Write (tot := tot) rd hn rdc (by omega) (fun x hx => by have := hfw.2 x hx; omega)) (fun v8 w8 D8 => ?_)
        obtain ⟨u35, rfl, own35, U8⟩ := D8
        have nx8_rd_own35 : _ ∨ ∀ k, _ → ¬ ownS _ k := (rd.lt).imp_right fun h k hk hs => by have := h k hk; have := (Own.ge own35 hs).1; omega
        have nx8_rdc_own35 : _ ∨ ∀ k, _ → ¬ ownS _ k := (rdc.lt).imp_right fun h k hk hs => by have := h k hk; have := (Own.ge own35 hs).1; omega
        have nx8_h_gT_own35 : ¬ ownS _ gT := fun h => by have := (Own.ge own35 h).1; have := lt_get h_gT; omega
        have nx8_h_b1_own35 : ¬ ownS _ b1 := fun h => by have := (Own.ge own35 h).1; have := lt_get h_b1; omega
        replace own35 := own35.mono (B' := w.heap.size) hF.size
        replace rd := rd.upd0 U8
        replace rdc := rdc.upd0 U8
        replace h_gT := U8.get0 h_gT
        replace h_b1 := U8.get0 h_b1
        replace hF := hF.go0 U8
        refine opv_run (ext_t (by rfl)) ?_
        refine opv_run (ext_t (by rfl)) ?_
        refine opv_dec (neI _ _ _ _ _) (fun h9 => ?_) (fun h9 => ?_)
        · refine condt ?_
          exact ⟨rfl, hF⟩
        · refine condf ?_
          have hw35 := Gs.write_ok0 (i := ⟨aid, al, cur, Gs.its l⟩) (n := tot) (by first | assumption | exact Classical.not_not.1 (by assumption))
          rw [hal] at hw35
          obtain ⟨p35, q35, k1, k2, e1, e2, e3⟩ := Gs.items_split hl2 hw35
          have hlk : (aid :: p35 :: q35 :: (k1 ++ k2)).length ≤ 2463 := by rw [← e3]; have h1 := Gs.writeM_len hw35; have h2 := Gs.few_wsum hfw; dsimp only at h1; omega
          simp only [List.length_cons, List.length_append] at hlk
          rw [hal, e3] at own35
          obtain ⟨A35, c35, rfl, rd35⟩ := own35.rd1
          refine opv_run (ldA (n := 4) (cs' := #[.int .u8 aid, .bool al, .int .i64 cur, .slice A n cp]) (by kernel_rfl) h_b1 (by first | exact Nat.le_of_ble_eq_true rfl | (simp; done) | omega) (by rfl)) ?_
          refine alloc_intro (cs := #[.int .u8 0, .bool false, .int .i64 0, .slice none 0 0]) (by kernel_rfl) (fun b11 w11 e11 h_b11 _ U11 => ?_)
          have na_rd_b11 := rd.apart e11
          have na_rdc_b11 := rdc.apart e11
          have ne_gT_b11 : gT ≠ b11 := by have := lt_get h_gT; omega
          have ne_b1_b11 : b1 ≠ b11 := by have := lt_get h_b1; omega
          have na_own35_b11 := own35.apart e11
          have ge_b11 : w.heap.size ≤ b11 := by have := hF.size; omega
          replace rd := rd.upd0 U11
          replace rdc := rdc.upd0 U11
          replace own35 := own35.upd0 U11
          replace h_gT := U11.get0 h_gT
          replace h_b1 := U11.get0 h_b1
          replace hF := hF.go0 U11
          clear e11
          refine store_intro (n := 4) (cs' := #[.int .u8 aid, .bool al, .int .i64 cur, .slice A n cp]) (by kernel_rfl) (by rfl) (by first | rfl | (simp [Value.cells, Value.oneCell', Gs.cv, Gs.ie]; done)) h_b11 (by first | exact Nat.le_of_ble_eq_true rfl | (simp; done) | omega) (by rfl) (fun w12 N12 _ U12 => ?_)
          replace rd := rd.upd1 U12 na_rd_b11
          replace rdc := rdc.upd1 U12 na_rdc_b11
          replace own35 := own35.upd1 U12 na_own35_b11
          replace h_gT := U12.get1 h_gT ne_gT_b11
          replace h_b1 := U12.get1 h_b1 ne_b1_b11
          replace h_b11 := N12
          replace hF := hF.go1 U12 ge_b11
          refine opv_run (fieldAt_eq (off := 3) (by kernel_rfl)) ?_
          refine opv_run (ldC (by kernel_rfl) h_b1 (by rfl)) ?_
          refine opv_run (fieldAt_eq (off := 3) (by kernel_rfl)) ?_
          refine opv_run (ldC (by kernel_rfl) h_b1 (by rfl)) ?_
          refine opv_run (len_sl (by kernel_rfl) _ _ _) ?_
          first | refine opv_run (sub_i64 _ (by omega)) ?_ | refine opv_run (subI _ _ _ _) ?_
          refine opv_run (sliceHi (m := 2) (by kernel_rfl) (by omega) (by omega)) ?_
          have hi47 : ((n : Int) - 1).toNat = l.length - 1 := by omega
          rw [hi47]
          have rd47 := Gs.rd_takeR Gs.encIt rd (l.length - 1)
          have rdc47 := rdc.take (l.length - 1)
          have nr47 : rows Gs.ie (l.take (l.length - 1)) = [] ∨ ∀ k, blkOf A k → k ≠ b11 := na_rd_b11.imp (fun e => by have h := rows_take Gs.encIt l (l.length - 1); rw [e] at h; rw [← h]; simp) id
          have nc47 : (l.take (l.length - 1)) = [] ∨ ∀ k, Gs.clB (l.take (l.length - 1)) k → k ≠ b11 := na_rdc_b11.imp (fun e => by rw [e]; rfl) (fun h k ⟨x, hx, r⟩ => h k ⟨x, List.mem_of_mem_take hx, r⟩)
          obtain ⟨A65, C65, hs65, rd65, nb65, hc65⟩ := sliceLoX (P := Tryd.prog) (t := 24) Gs.encIt (by kernel_rfl) rd hn (lo := (n : Int) - 1) (by omega) (by omega) hcp
          rw [hi47] at hs65 rd65 hc65
          have rdc65 := rdc.drop (l.length - 1)
          have nr65 : rows Gs.ie (l.drop (l.length - 1)) = [] ∨ ∀ k, blkOf A65 k → k ≠ b11 := na_rd_b11.imp (fun e => by have h := rows_drop Gs.encIt l (l.length - 1); rw [e] at h; rw [← h]; simp) (fun h k hk => h k (nb65 k hk))
          have nc65 : (l.drop (l.length - 1)) = [] ∨ ∀ k, Gs.clB (l.drop (l.length - 1)) k → k ≠ b11 := na_rdc_b11.imp (fun e => by rw [e]; rfl) (fun h k ⟨x, hx, r⟩ => h k ⟨x, List.mem_of_mem_drop hx, r⟩)
          refine opv_run (fieldAt_eq (off := 3) (by kernel_rfl)) ?_
          refine store1_intro (by kernel_rfl) rfl rfl h_b11 (by first | exact Nat.le_of_ble_eq_true rfl | (simp; done) | omega | (simp [vals_length, *]; done) | (simp [vals_length, *]; omega)) (by first | (simp [vals_set]; rfl) | rfl) (fun w14 N14 _ U14 => ?_)
          replace rd := rd.upd1 U14 na_rd_b11
          replace rdc := rdc.upd1 U14 na_rdc_b11
          replace own35 := own35.upd1 U14 na_own35_b11
          replace rd47 := rd47.upd1 U14 (by assumption)
          replace rdc47 := rdc47.upd1 U14 (by assumption)
          replace rd65 := rd65.upd1 U14 (by assumption)
          replace rdc65 := rdc65.upd1 U14 (by assumption)
          replace h_gT := U14.get1 h_gT ne_gT_b11
          replace h_b1 := U14.get1 h_b1 ne_b1_b11
          replace h_b11 := N14
          replace hF := hF.go1 U14 ge_b11
          refine opv_run (ldA (n := 4) (by kernel_rfl) h_b11 (by first | exact Nat.le_of_ble_eq_true rfl | (simp; done) | omega) (by rfl)) ?_
          refine callF_ex (c_gr_Write (tot := tot) rd47 (by rw [List.length_take]; omega) rdc47 (by omega) (fun x hx => by have := hfw.2 x (List.mem_of_mem_take hx); omega)) (fun v15 w15 D15 => ?_)
          obtain ⟨u52, rfl, own52, U15⟩ := D15
          rw [show Gs.writeM ⟨aid, al, cur, Gs.its (l.take (l.length - 1))⟩ tot = .ok (aid :: p35 :: q35 :: k1) by rw [hal]; exact e1] at own52 ⊢
          replace own52 : Own _ _ _ _ u52 (vals .u8 (aid :: p35 :: q35 :: k1)) := own52
          obtain ⟨A52, c52, rfl, rd52⟩ := own52.rd1
          have nx15_rd_own52 : _ ∨ ∀ k, _ → ¬ ownS _ k := (rd.lt).imp_right fun h k hk hs => by have := h k hk; have := (Own.ge own52 hs).1; omega
          have nx15_rdc_own52 : _ ∨ ∀ k, _ → ¬ ownS _ k := (rdc.lt).imp_right fun h k hk hs => by have := h k hk; have := (Own.ge own52 hs).1; omega
          have nx15_h_gT_own52 : ¬ ownS _ gT := fun h => by have := (Own.ge own52 h).1; have := lt_get h_gT; omega
          have nx15_h_b1_own52 : ¬ ownS _ b1 := fun h => by have := (Own.ge own52 h).1; have := lt_get h_b1; omega
          have nx15_own35_own52 : ∀ k, ownS _ k → ¬ ownS _ k := fun k hk hs => by have := (Own.ge own35 hk).2; have := (Own.ge own52 hs).1; omega
          have nx15_h_b11_own52 : ¬ ownS _ b11 := fun h => by have := (Own.ge own52 h).1; have := lt_get h_b11; omega
          have nx15_rd47_own52 : _ ∨ ∀ k, _ → ¬ ownS _ k := (rd47.lt).imp_right fun h k hk hs => by have := h k hk; have := (Own.ge own52 hs).1; omega
          have nx15_rdc47_own52 : _ ∨ ∀ k, _ → ¬ ownS _ k := (rdc47.lt).imp_right fun h k hk hs => by have := h k hk; have := (Own.ge own52 hs).1; omega
          have nx15_rd65_own52 : _ ∨ ∀ k, _ → ¬ ownS _ k := (rd65.lt).imp_right fun h k hk hs => by have := h k hk; have := (Own.ge own52 hs).1; omega
          have nx15_rdc65_own52 : _ ∨ ∀ k, _ → ¬ ownS _ k := (rdc65.lt).imp_right fun h k hk hs => by have := h k hk; have := (Own.ge own52 hs).1; omega
          replace own52 := own52.mono (B' := w.heap.size) hF.size
          replace rd := rd.upd0 U15
          replace rdc := rdc.upd0 U15
          replace own35 := own35.upd0 U15
          replace rd47 := rd47.upd0 U15
          replace rdc47 := rdc47.upd0 U15
          replace rd65 := rd65.upd0 U15
          replace rdc65 := rdc65.upd0 U15
          replace h_gT := U15.get0 h_gT
          replace h_b1 := U15.get0 h_b1
          replace h_b11 := U15.get0 h_b11
          replace hF := hF.go0 U15
          refine opv_run (ext_t (by rfl)) ?_
          refine opv_run (ext_t (by rfl)) ?_
          refine drawn_S (S := no) (fun w16 U16 => ?_)
          replace rd := rd.upd0 U16
          replace rdc := rdc.upd0 U16
          replace own35 := own35.upd0 U16
          replace rd47 := rd47.upd0 U16
          replace rdc47 := rdc47.upd0 U16
          replace rd65 := rd65.upd0 U16
          replace rdc65 := rdc65.upd0 U16
          replace own52 := own52.upd0 U16
          replace h_gT := U16.get0 h_gT
          replace h_b1 := U16.get0 h_b1
          replace h_b11 := U16.get0 h_b11
          replace hF := hF.go0 U16
          refine qop_run (fun w' hw' => (fieldAt_eq (off := 0) (by kernel_rfl))) ?_
          refine qop_run (fun w' hw' => by have h_b1 := hw'.get0 h_b1; exact (ldC (by kernel_rfl) h_b1 (by rfl))) ?_
          refine qop_run (fun w' hw' => (fieldAt_eq (off := 2) (by kernel_rfl))) ?_
          refine qop_run (fun w' hw' => by have h_b1 := hw'.get0 h_b1; exact (ldC (by kernel_rfl) h_b1 (by rfl))) ?_
          refine qop_run (fun w' hw' => (fieldAt_eq (off := 3) (by kernel_rfl))) ?_
          refine qop_run (fun w' hw' => by have h_b1 := hw'.get0 h_b1; exact (ldC (by kernel_rfl) h_b1 (by rfl))) ?_
          refine qop_run (fun w' hw' => (fieldAt_eq (off := 3) (by kernel_rfl))) ?_
          refine qop_run (fun w' hw' => by have h_b1 := hw'.get0 h_b1; exact (ldC (by kernel_rfl) h_b1 (by rfl))) ?_
          refine qop_run (fun w' hw' => (len_sl (by kernel_rfl) _ _ _)) ?_
          first | refine qop_run (fun w' hw' => (sub_i64 _ (by omega))) ?_ | refine qop_run (fun w' hw' => (subI _ _ _ _)) ?_
          refine qop_run (fun w' hw' => (hs65 _)) ?_
          refine qop_run (fun w' hw' => (build_eq (l := [(0, 1), (1, 1), (2, 1), (3, 1)]) (z := #[.int .u8 0, .bool false, .int .i64 0, .slice none 0 0]) (cs := [.int .u8 aid, .bool false, .int .i64 cur, .slice A65 (n - (l.length - 1)) C65]) (by kernel_rfl) (by rfl))) ?_
          refine ext_intro (fun w19 U19 => ?_)
          replace rd := rd.upd0 U19
          replace rdc := rdc.upd0 U19
          replace own35 := own35.upd0 U19
          replace rd47 := rd47.upd0 U19
          replace rdc47 := rdc47.upd0 U19
          replace rd65 := rd65.upd0 U19
          replace rdc65 := rdc65.upd0 U19
          replace own52 := own52.upd0 U19
          replace h_gT := U19.get0 h_gT
          replace h_b1 := U19.get0 h_b1
          replace h_b11 := U19.get0 h_b11
          replace hF := hF.go0 U19
          refine lop_i ?_
          refine alloc_intro (cs := #[.int .u8 0, .bool false, .int .i64 0, .slice none 0 0]) (by kernel_rfl) (fun b20 w20 e20 h_b20 _ U20 => ?_)
          have na_rd_b20 := rd.apart e20
          have na_rdc_b20 := rdc.apart e20
          have ne_gT_b20 : gT ≠ b20 := by have := lt_get h_gT; omega
          have ne_b1_b20 : b1 ≠ b20 := by have := lt_get h_b1; omega
          have na_own35_b20 := own35.apart e20
          have ne_b11_b20 : b11 ≠ b20 := by have := lt_get h_b11; omega
          have na_rd47_b20 := rd47.apart e20
          have na_rdc47_b20 := rdc47.apart e20
          have na_rd65_b20 := rd65.apart e20
          have na_rdc65_b20 := rdc65.apart e20
          have na_own52_b20 := own52.apart e20
          have ge_b20 : w.heap.size ≤ b20 := by have := hF.size; omega
          replace rd := rd.upd0 U20
          replace rdc := rdc.upd0 U20
          replace own35 := own35.upd0 U20
          replace rd47 := rd47.upd0 U20
          replace rdc47 := rdc47.upd0 U20
          replace rd65 := rd65.upd0 U20
          replace rdc65 := rdc65.upd0 U20
          replace own52 := own52.upd0 U20
          replace h_gT := U20.get0 h_gT
          replace h_b1 := U20.get0 h_b1
          replace h_b11 := U20.get0 h_b11
          replace hF := hF.go0 U20
          clear e20
          refine ⟨U20, ?_⟩
          refine ext_intro (fun w21 U21 => ?_)
          replace rd := rd.upd0 U21
          replace rdc := rdc.upd0 U21
          replace own35 := own35.upd0 U21
          replace rd47 := rd47.upd0 U21
          replace rdc47 := rdc47.upd0 U21
          replace rd65 := rd65.upd0 U21
          replace rdc65 := rdc65.upd0 U21
          replace own52 := own52.upd0 U21
          replace h_gT := U21.get0 h_gT
          replace h_b1 := U21.get0 h_b1
          replace h_b11 := U21.get0 h_b11
          replace h_b20 := U21.get0 h_b20
          replace hF := hF.go0 U21
          refine store_intro (n := 4) (cs' := #[.int .u8 aid, .bool false, .int .i64 cur, .slice A65 (n - (l.length - 1)) C65]) (by kernel_rfl) (by rfl) (by first | rfl | (simp [Value.cells, Value.oneCell', Gs.cv, Gs.ie]; done)) h_b20 (by first | exact Nat.le_of_ble_eq_true rfl | (simp; done) | omega) (by rfl) (fun w22 N22 _ U22 => ?_)
          replace rd := rd.upd1 U22 na_rd_b20
          replace rdc := rdc.upd1 U22 na_rdc_b20
          replace own35 := own35.upd1 U22 na_own35_b20
          replace rd47 := rd47.upd1 U22 na_rd47_b20
          replace rdc47 := rdc47.upd1 U22 na_rdc47_b20
          replace rd65 := rd65.upd1 U22 na_rd65_b20
          replace rdc65 := rdc65.upd1 U22 na_rdc65_b20
          replace own52 := own52.upd1 U22 na_own52_b20
          replace h_gT := U22.get1 h_gT ne_gT_b20
          replace h_b1 := U22.get1 h_b1 ne_b1_b20
          replace h_b11 := U22.get1 h_b11 ne_b11_b20
          replace h_b20 := N22
          replace hF := hF.go1 U22 ge_b20
          refine ext_intro (fun w23 U23 => ?_)
          replace rd := rd.upd0 U23
          replace rdc := rdc.upd0 U23
          replace own35 := own35.upd0 U23
          replace rd47 := rd47.upd0 U23
          replace rdc47 := rdc47.upd0 U23
          replace rd65 := rd65.upd0 U23
          replace rdc65 := rdc65.upd0 U23
          replace own52 := own52.upd0 U23
          replace h_gT := U23.get0 h_gT
          replace h_b1 := U23.get0 h_b1
          replace h_b11 := U23.get0 h_b11
          replace h_b20 := U23.get0 h_b20
          replace hF := hF.go0 U23
          refine opv_run (ldA (n := 4) (cs' := #[.int .u8 aid, .bool false, .int .i64 cur, .slice A65 (n - (l.length - 1)) C65]) (by kernel_rfl) h_b20 (by first | exact Nat.le_of_ble_eq_true rfl | (simp; done) | omega) (by rfl)) ?_
          refine callF_ex (c_gr_Write (tot := tot) rd65 (by rw [List.length_drop]; omega) rdc65 (by omega) (fun x hx => by have := hfw.2 x (List.mem_of_mem_drop hx); omega)) (fun v24 w24 D24 => ?_)
          obtain ⟨u70, rfl, own70, U24⟩ := D24
          rw [e2] at own70 ⊢
          replace own70 : Own _ _ _ _ u70 (vals .u8 (aid :: p35 :: q35 :: k2)) := own70
          obtain ⟨A70, c70, rfl, rd70⟩ := own70.rd1
          obtain ⟨A85, c85, hs85, rd85⟩ := sliceLoV (P := Tryd.prog) (t := 22) (lo := 3) (by kernel_rfl) own70.rdS rfl (by omega) (by simp only [List.length_cons]; omega) own70.le_cap
          have nx24_rd_own70 : _ ∨ ∀ k, _ → ¬ ownS _ k := (rd.lt).imp_right fun h k hk hs => by have := h k hk; have := (Own.ge own70 hs).1; omega
          have nx24_rdc_own70 : _ ∨ ∀ k, _ → ¬ ownS _ k := (rdc.lt).imp_right fun h k hk hs => by have := h k hk; have := (Own.ge own70 hs).1; omega
          have nx24_h_gT_own70 : ¬ ownS _ gT := fun h => by have := (Own.ge own70 h).1; have := lt_get h_gT; omega
          have nx24_h_b1_own70 : ¬ ownS _ b1 := fun h => by have := (Own.ge own70 h).1; have := lt_get h_b1; omega
          have nx24_own35_own70 : ∀ k, ownS _ k → ¬ ownS _ k := fun k hk hs => by have := (Own.ge own35 hk).2; have := (Own.ge own70 hs).1; omega
          have nx24_h_b11_own70 : ¬ ownS _ b11 := fun h => by have := (Own.ge own70 h).1; have := lt_get h_b11; omega
          have nx24_rd47_own70 : _ ∨ ∀ k, _ → ¬ ownS _ k := (rd47.lt).imp_right fun h k hk hs => by have := h k hk; have := (Own.ge own70 hs).1; omega
          have nx24_rdc47_own70 : _ ∨ ∀ k, _ → ¬ ownS _ k := (rdc47.lt).imp_right fun h k hk hs => by have := h k hk; have := (Own.ge own70 hs).1; omega
          have nx24_rd65_own70 : _ ∨ ∀ k, _ → ¬ ownS _ k := (rd65.lt).imp_right fun h k hk hs => by have := h k hk; have := (Own.ge own70 hs).1; omega
          have nx24_rdc65_own70 : _ ∨ ∀ k, _ → ¬ ownS _ k := (rdc65.lt).imp_right fun h k hk hs => by have := h k hk; have := (Own.ge own70 hs).1; omega
          have nx24_own52_own70 : ∀ k, ownS _ k → ¬ ownS _ k := fun k hk hs => by have := (Own.ge own52 hk).2; have := (Own.ge own70 hs).1; omega
          have nx24_h_b20_own70 : ¬ ownS _ b20 := fun h => by have := (Own.ge own70 h).1; have := lt_get h_b20; omega
          replace own70 := own70.mono (B' := w.heap.size) hF.size
          replace rd := rd.upd0 U24
          replace rdc := rdc.upd0 U24
          replace own35 := own35.upd0 U24
          replace rd47 := rd47.upd0 U24
          replace rdc47 := rdc47.upd0 U24
          replace rd65 := rd65.upd0 U24
          replace rdc65 := rdc65.upd0 U24
          replace own52 := own52.upd0 U24
          replace h_gT := U24.get0 h_gT
          replace h_b1 := U24.get0 h_b1
          replace h_b11 := U24.get0 h_b11
          replace h_b20 := U24.get0 h_b20
          replace hF := hF.go0 U24
          refine opv_run (ext_t (by rfl)) ?_
          refine opv_run (ext_t (by rfl)) ?_
          refine drawn_S (S := no) (fun w25 U25 => ?_)
          replace rd := rd.upd0 U25
          replace rdc := rdc.upd0 U25
          replace own35 := own35.upd0 U25
          replace rd47 := rd47.upd0 U25
          replace rdc47 := rdc47.upd0 U25
          replace rd65 := rd65.upd0 U25
          replace rdc65 := rdc65.upd0 U25
          replace own52 := own52.upd0 U25
          replace own70 := own70.upd0 U25
          replace rd85 := rd85.upd0 U25
          replace h_gT := U25.get0 h_gT
          replace h_b1 := U25.get0 h_b1
          replace h_b11 := U25.get0 h_b11
          replace h_b20 := U25.get0 h_b20
          replace hF := hF.go0 U25
          refine qop_F (fun w' hw' => (neI _ _ _ _ _)) (fun hne => hne rfl) ?_
          refine qgdff ?_
          refine qmove ?_
          refine qgdff ?_
          refine qop_F (fun w' hw' => (neI _ _ _ _ _)) (fun hne => hne rfl) ?_
          refine qpickf ?_
          refine qgdff ?_
          refine qmove ?_
          refine qgdff ?_
          refine qop_run (fun w' hw' => by have own35 := own35.upd0 hw'; exact (convBS (e := 5) (by kernel_rfl) (by kernel_rfl) (by kernel_rfl) own35.rdS (by first | rfl | assumption | (simp; done) | omega))) ?_
          refine qgdff ?_
          refine qmove ?_
          refine qgdff ?_
          refine qop_run (fun w' hw' => by have own52 := own52.upd0 hw'; exact (convBS (e := 5) (by kernel_rfl) (by kernel_rfl) (by kernel_rfl) own52.rdS (by first | rfl | assumption | (simp; done) | omega))) ?_
          refine qgdff ?_
          refine qmove ?_
          refine qgdff ?_
          refine qop_run (fun w' hw' => (hs85 _)) ?_
          refine qgdff ?_
          refine qop_run (fun w' hw' => by have rd85 := rd85.upd0 hw'; exact (convBS (e := 5) (by kernel_rfl) (by kernel_rfl) (by kernel_rfl) rd85 (by first | rfl | assumption | (simp; done) | omega))) ?_
          refine qgdff ?_
          refine qop_run (fun w' hw' => (addS (by rw [Gs.b2s_size, Gs.b2s_size]; simp only [List.length_cons, List.length_drop]; omega))) ?_
          refine qgdff ?_
          refine qop_F (fun w' hw' => (neS _ _ _ _)) (fun hne => hne (Gs.str3 _ _ _ _ _)) ?_
          refine qpickf ?_
          refine ext_intro (fun w28 U28 => ?_)
          replace rd := rd.upd0 U28
          replace rdc := rdc.upd0 U28
          replace own35 := own35.upd0 U28
          replace rd47 := rd47.upd0 U28
          replace rdc47 := rdc47.upd0 U28
          replace rd65 := rd65.upd0 U28
          replace rdc65 := rdc65.upd0 U28
          replace own52 := own52.upd0 U28
          replace own70 := own70.upd0 U28
          replace rd85 := rd85.upd0 U28
          replace h_gT := U28.get0 h_gT
          replace h_b1 := U28.get0 h_b1
          replace h_b11 := U28.get0 h_b11
          replace h_b20 := U28.get0 h_b20
          replace hF := hF.go0 U28
          refine condf ?_
          refine drawn_S (S := no) (fun w29 U29 => ?_)
          replace rd := rd.upd0 U29
          replace rdc := rdc.upd0 U29
          replace own35 := own35.upd0 U29
          replace rd47 := rd47.upd0 U29
          replace rdc47 := rdc47.upd0 U29
          replace rd65 := rd65.upd0 U29
          replace rdc65 := rdc65.upd0 U29
          replace own52 := own52.upd0 U29
          replace own70 := own70.upd0 U29
          replace rd85 := rd85.upd0 U29
          replace h_gT := U29.get0 h_gT
          replace h_b1 := U29.get0 h_b1
          replace h_b11 := U29.get0 h_b11
          replace h_b20 := U29.get0 h_b20
          replace hF := hF.go0 U29
          refine qop_run (fun w' hw' => by have h_b11 := hw'.get0 h_b11; exact (ldA (n := 4) (by kernel_rfl) h_b11 (by first | exact Nat.le_of_ble_eq_true rfl | (simp; done) | omega) (by rfl))) ?_
          refine qop_call (fun w' hw' => by have h_gT := hw'.get0 h_gT; have rd47 := rd47.upd0 hw'; have rdc47 := rdc47.upd0 hw'; exact c_gr_Text (page := page) rd47 (by rw [List.length_take]; omega) rdc47 hgT h_gT ha hcur (fun x hx => hiw x (List.mem_of_mem_take hx)) (fun x hx => hat x (List.mem_of_mem_take hx)) (by omega) (fun x hx => by have := hfw.2 x (List.mem_of_mem_take hx); omega)) ?_
          refine qop_run (fun w' hw' => by have h_b1 := hw'.get0 h_b1; exact (ldA (n := 4) (cs' := #[.int .u8 aid, .bool al, .int .i64 cur, .slice A n cp]) (by kernel_rfl) h_b1 (by first | exact Nat.le_of_ble_eq_true rfl | (simp; done) | omega) (by rfl))) ?_
          refine qop_call (fun w' hw' => by have rd := rd.upd0 hw'; have rdc := rdc.upd0 hw'; have h_gT := hw'.get0 h_gT; exact c_gr_Text (page := page) rd hn rdc hgT h_gT ha hcur hiw hat (by omega) (fun x hx => by have := hfw.2 x hx; omega)) ?_
          refine ext_intro (fun w32 U32 => ?_)
          replace rd := rd.upd0 U32
          replace rdc := rdc.upd0 U32
          replace own35 := own35.upd0 U32
          replace rd47 := rd47.upd0 U32
          replace rdc47 := rdc47.upd0 U32
          replace rd65 := rd65.upd0 U32
          replace rdc65 := rdc65.upd0 U32
          replace own52 := own52.upd0 U32
          replace own70 := own70.upd0 U32
          replace rd85 := rd85.upd0 U32
          replace h_gT := U32.get0 h_gT
          replace h_b1 := U32.get0 h_b1
          replace h_b11 := U32.get0 h_b11
          replace h_b20 := U32.get0 h_b20
          replace hF := hF.go0 U32
          obtain ⟨bT, hbT, htx⟩ := Gs.txt_split (page := page) (aid := aid) (cur := cur) (l := l) (by omega)
          rw [hal, htx]
          refine opv_run (len_str (by kernel_rfl) _) ?_
          refine opv_run (len_str (by kernel_rfl) _) ?_
          refine opv_T (gtr _ _ _ _) (Gs.ba_lt hbT) ?_
          refine gdtt ?_
          refine gdtt ?_
          refine gdtt ?_
          refine opv_run (len_str (by kernel_rfl) _) ?_
          refine gdtt ?_
          refine opv_run (sliceSH (by kernel_rfl) (by omega) (by have := Gs.ba_lt (a := Gs.txtL page ⟨aid, false, cur, Gs.its (l.take (l.length - 1))⟩) hbT; omega)) ?_
          refine gdtt ?_
          refine gdtt ?_
          refine opv_T (eqS _ _ _ _) (Gs.ba_take _ _) ?_
          refine pickt ?_
          refine gdtt ?_
          refine opv_run (ldA (n := 4) (cs' := #[.int .u8 aid, .bool al, .int .i64 cur, .slice A n cp]) (by kernel_rfl) h_b1 (by first | exact Nat.le_of_ble_eq_true rfl | (simp; done) | omega) (by rfl)) ?_
          refine gdtt ?_
          refine opv_run (ldA (n := 4) (by kernel_rfl) h_b11 (by first | exact Nat.le_of_ble_eq_true rfl | (simp; done) | omega) (by rfl)) ?_
          refine gdtt ?_
          refine callF_F (c_gr_Same rd hn rdc rd47 (by rw [List.length_take]; omega) rdc47 (by omega) (fun x hx => by have := hfw.2 x hx; omega)) (decide_eq_false fun he => by injection he with _ _ _ h4; have := Gs.its_lenE h4; rw [List.length_take] at this; omega) (fun w34 U34 => ?_)
          replace rd := rd.upd0 U34
          replace rdc := rdc.upd0 U34
          replace own35 := own35.upd0 U34
          replace rd47 := rd47.upd0 U34
          replace rdc47 := rdc47.upd0 U34
          replace rd65 := rd65.upd0 U34
          replace rdc65 := rdc65.upd0 U34
          replace own52 := own52.upd0 U34
          replace own70 := own70.upd0 U34
          replace rd85 := rd85.upd0 U34
          replace h_gT := U34.get0 h_gT
          replace h_b1 := U34.get0 h_b1
          replace h_b11 := U34.get0 h_b11
          replace h_b20 := U34.get0 h_b20
          replace hF := hF.go0 U34
          refine gdtt ?_
          refine opv_run (notF) ?_
          refine pickt ?_
          exact ⟨rfl, hF⟩
  · replace rd := rd.upd0 U3
    replace rdc := rdc.upd0 U3
    replace h_gT := U3.get0 h_gT
    replace h_b1 := U3.get0 h_b1
    replace hF := hF.go0 U3
    try simp only [decide_eq_true_eq, decide_eq_false_iff_not] at h3
    refine opv_run (notF) ?_
    refine gdtf ?_
    refine gdtf ?_
    refine pickt ?_
    refine gdtf ?_
    refine gdtf ?_
    refine gdtf ?_
    refine gdtf ?_
    refine pickt ?_
    refine condt ?_
    exact ⟨rfl, hF⟩

end Go.Proofs.YtkjkmahpkfbbnaaDoor
