/-
  Contracts of functions of the program, walked over their shallow forms. No condition but the ones that each states.
-/
import Derived.Test.YtkjkmahpkfbbnaaDoorGf
import Derived.Test.YtkjkmahpkfbbnaaDoorGramLen
namespace Go.Proofs.YtkjkmahpkfbbnaaDoor
open Go Go.Sh
set_option linter.unusedVariables false
set_option maxRecDepth 100000


set_option maxHeartbeats 2000000 in
/-- greenscreen/greenscreenlaw25.GrammarBack -/
theorem c_law25_GrammarBack {aid cur : Int} {al : Bool} {A : Option Addr} {n cp : Nat} {l : List Gs.It} {Ab : Option Addr} {nb cb : Nat} {bs : List Int} {gT : Nat} {eT : TypeId} {fT : Nat × Nat} {tot : Int} {w : World} (rd : Rd w A (rows Gs.ie l)) (hn : n = l.length) (rdc : Gs.Cl w l) (rdb : Rd w Ab (vals .u8 bs)) (hnb : nb = bs.length) (hcb0 : nb ≤ cb) (hbs : Bs bs) (hgT : Tryd.prog.globalNamed "internal/strconv.uint64pow10" = some gT) (h_gT : w.heap[gT]? = some (.cells Gs.powT eT fT)) (ha : 0 ≤ aid ∧ aid ≤ 255) (hcp : n ≤ cp) (hcur : -9223372036854775808 ≤ cur ∧ cur ≤ 9223372036854775807) (hiw : Gs.Iw l) (hat : ∀ x ∈ l, -9223372036854775808 ≤ x.at' ∧ x.at' ≤ 9223372036854775807) (hbd : n ≤ 9223372036854775807)  :
    Calls Tryd.prog 5 #[.agg #[.int .u8 aid, .bool al, .int .i64 cur, .slice A n cp], .int .i64 tot, .slice Ab nb cb] w fun e w' => e = .returned (.bool true) ∧ Upd no w w' := by
  refine F5.calls ?_
  unfold F5
  have lt_rd := rd.lt
  have lt_rdc := rdc.lt
  have lt_rdb := rdb.lt
  have lt_h_gT := lt_get h_gT
  have hF : Upd no w w := Fr.refl _ _ _
  refine box_intro (cs := #[.int .u8 aid, .bool al, .int .i64 cur, .slice A n cp]) (by rfl) (fun b1 w1 e1 h_b1 _ U1 => ?_)
  have na_rd_b1 := rd.apart e1
  have na_rdc_b1 := rdc.apart e1
  have na_rdb_b1 := rdb.apart e1
  have ne_gT_b1 : gT ≠ b1 := by have := lt_get h_gT; omega
  have ge_b1 : w.heap.size ≤ b1 := by have := hF.size; omega
  replace rd := rd.upd0 U1
  replace rdc := rdc.upd0 U1
  replace rdb := rdb.upd0 U1
  replace h_gT := U1.get0 h_gT
  replace hF := hF.go0 U1
  clear e1
  refine callF_T (c_law25_alive hgT h_gT) (rfl) (fun w2 U2 => ?_)
  replace rd := rd.upd0 U2
  replace rdc := rdc.upd0 U2
  replace rdb := rdb.upd0 U2
  replace h_gT := U2.get0 h_gT
  replace h_b1 := U2.get0 h_b1
  replace hF := hF.go0 U2
  refine opv_run (notT) ?_
  refine condf ?_
  refine opv_run (ldA (n := 4) (cs' := #[.int .u8 aid, .bool al, .int .i64 cur, .slice A n cp]) (by kernel_rfl) h_b1 (by first | exact Nat.le_of_ble_eq_true rfl | (simp; done) | omega) (by rfl)) ?_
  refine callF_bool (c_law_few rd hn rdc hbd) (fun w3 U3 h3 => ?_) (fun w3 U3 h3 => ?_)
  · replace rd := rd.upd0 U3
    replace rdc := rdc.upd0 U3
    replace rdb := rdb.upd0 U3
    replace h_gT := U3.get0 h_gT
    replace h_b1 := U3.get0 h_b1
    replace hF := hF.go0 U3
    try simp only [decide_eq_true_eq, decide_eq_false_iff_not] at h3
    refine opv_run (notT) ?_
    refine gdff ?_
    refine gdff ?_
    refine opv_run (len_sl (by kernel_rfl) _ _ _) ?_
    refine gdff ?_
    refine opv_dec (gtr _ _ _ _) (fun h4 => ?_) (fun h4 => ?_)
    · refine pickf ?_
      refine condt ?_
      exact ⟨rfl, hF⟩
    · refine pickf ?_
      refine condf ?_
      refine join_cut (fun g w' => (Rd w' Ab (vals .u8 bs)) ∧ (Upd no w w')) (fun J1 hJ1 => ?_) (fun gJ1 wJ1 hI => ?_)
      · have hfw := Gs.few_of (l := l) (by assumption)
        have hnb6 : nb ≤ 600 := by omega
        refine opv_run (ldA (n := 4) (cs' := #[.int .u8 aid, .bool al, .int .i64 cur, .slice A n cp]) (by kernel_rfl) h_b1 (by first | exact Nat.le_of_ble_eq_true rfl | (simp; done) | omega) (by rfl)) ?_
        refine callF_ex (c_gr_Write (tot := tot) rd hn rdc (by omega) (fun x hx => by have := hfw.2 x hx; omega)) (fun v6 w6 D6 => ?_)
        obtain ⟨u30, rfl, own30, U6⟩ := D6
        obtain ⟨A30, c30, rfl, rd30⟩ := own30.rd1
        have nx6_rd_own30 : _ ∨ ∀ k, _ → ¬ ownS _ k := (rd.lt).imp_right fun h k hk hs => by have := h k hk; have := (Own.ge own30 hs).1; omega
        have nx6_rdc_own30 : _ ∨ ∀ k, _ → ¬ ownS _ k := (rdc.lt).imp_right fun h k hk hs => by have := h k hk; have := (Own.ge own30 hs).1; omega
        have nx6_rdb_own30 : _ ∨ ∀ k, _ → ¬ ownS _ k := (rdb.lt).imp_right fun h k hk hs => by have := h k hk; have := (Own.ge own30 hs).1; omega
        have nx6_h_gT_own30 : ¬ ownS _ gT := fun h => by have := (Own.ge own30 h).1; have := lt_get h_gT; omega
        have nx6_h_b1_own30 : ¬ ownS _ b1 := fun h => by have := (Own.ge own30 h).1; have := lt_get h_b1; omega
        replace own30 := own30.mono (B' := w.heap.size) hF.size
        replace rd := rd.upd0 U6
        replace rdc := rdc.upd0 U6
        replace rdb := rdb.upd0 U6
        replace h_gT := U6.get0 h_gT
        replace h_b1 := U6.get0 h_b1
        replace hF := hF.go0 U6
        refine opv_run (ext_t (by rfl)) ?_
        refine opv_run (ext_t (by rfl)) ?_
        refine opv_dec (eqI _ _ _ _ _) (fun h7 => ?_) (fun h7 => ?_)
        · refine condt ?_
          have hw30 := Gs.write_ok0 (i := ⟨aid, al, cur, Gs.its l⟩) (n := tot) (by assumption)
          have hp30 := Gs.inbF_W hw30
          have hl30 : (Gs.okL (Gs.writeM ⟨aid, al, cur, Gs.its l⟩ tot)).length ≤ 2463 := by have h1 := Gs.writeM_len hw30; have h2 := Gs.few_wsum hfw; dsimp only at h1; omega
          have hb30 := Gs.writeM_Bs (i := ⟨aid, al, cur, Gs.its l⟩) ha (Gs.its_Cws hiw) hw30
          refine callF_ex (c_gr_Parse (bs := Gs.okL (Gs.writeM ⟨aid, al, cur, Gs.its l⟩ tot)) own30.rdS rfl own30.le_cap hb30 (by omega)) (fun v8 w8 D8 => ?_)
          obtain ⟨q37, l37, A37, c37, hq37, hi37, rfl, rd37, rdc37, hw37, gA37, gC37, ha37, U8⟩ := D8
          replace hq37 : q37 = Gs.normM ⟨aid, al, cur, Gs.its l⟩ := by rw [hq37]; unfold Gs.inbV; rw [hp30]
          rw [show Gs.errV (Gs.inbF (Gs.okL (Gs.writeM ⟨aid, al, cur, Gs.its l⟩ tot))) = 0 by rw [hp30]; rfl]
          have hs37 := Gs.its_wsum (l := l37) (m := 12315) (by rw [← hi37, hq37]; have := Gs.inbF_sum hp30; omega)
          have na_rd37_gT := gA37.ne (lt_get h_gT)
          have na_rd37_b1 := gA37.ne (lt_get h_b1)
          have na_rd37_own30 : _ ∨ ∀ k, _ → ¬ ownS _ k := gA37.imp_right fun h k hk hs => by have := h k hk; have := (Own.ge own30 hs).2; omega
          have na_rdc37_gT := gC37.ne (lt_get h_gT)
          have na_rdc37_b1 := gC37.ne (lt_get h_b1)
          have na_rdc37_own30 : _ ∨ ∀ k, _ → ¬ ownS _ k := gC37.imp_right fun h k hk hs => by have := h k hk; have := (Own.ge own30 hs).2; omega
          replace rd := rd.upd0 U8
          replace rdc := rdc.upd0 U8
          replace rdb := rdb.upd0 U8
          replace own30 := own30.upd0 U8
          replace h_gT := U8.get0 h_gT
          replace h_b1 := U8.get0 h_b1
          replace hF := hF.go0 U8
          refine opv_run (ext_t (by rfl)) ?_
          refine opv_run (ext_t (by rfl)) ?_
          refine alloc_intro (cs := #[.int .u8 0, .bool false, .int .i64 0, .slice none 0 0]) (by kernel_rfl) (fun b9 w9 e9 h_b9 _ U9 => ?_)
          have na_rd_b9 := rd.apart e9
          have na_rdc_b9 := rdc.apart e9
          have na_rdb_b9 := rdb.apart e9
          have ne_gT_b9 : gT ≠ b9 := by have := lt_get h_gT; omega
          have ne_b1_b9 : b1 ≠ b9 := by have := lt_get h_b1; omega
          have na_own30_b9 := own30.apart e9
          have na_rd37_b9 := rd37.apart e9
          have na_rdc37_b9 := rdc37.apart e9
          have ge_b9 : w.heap.size ≤ b9 := by have := hF.size; omega
          replace rd := rd.upd0 U9
          replace rdc := rdc.upd0 U9
          replace rdb := rdb.upd0 U9
          replace own30 := own30.upd0 U9
          replace rd37 := rd37.upd0 U9
          replace rdc37 := rdc37.upd0 U9
          replace h_gT := U9.get0 h_gT
          replace h_b1 := U9.get0 h_b1
          replace hF := hF.go0 U9
          clear e9
          refine store_intro (n := 4) (cs' := #[.int .u8 q37.aid, .bool q37.alone, .int .i64 q37.cur, .slice A37 l37.length c37]) (by kernel_rfl) (by rfl) (by first | rfl | (simp [Value.cells, Value.oneCell', Gs.cv, Gs.ie]; done)) h_b9 (by first | exact Nat.le_of_ble_eq_true rfl | (simp; done) | omega) (by rfl) (fun w10 N10 _ U10 => ?_)
          replace rd := rd.upd1 U10 na_rd_b9
          replace rdc := rdc.upd1 U10 na_rdc_b9
          replace rdb := rdb.upd1 U10 na_rdb_b9
          replace own30 := own30.upd1 U10 na_own30_b9
          replace rd37 := rd37.upd1 U10 na_rd37_b9
          replace rdc37 := rdc37.upd1 U10 na_rdc37_b9
          replace h_gT := U10.get1 h_gT ne_gT_b9
          replace h_b1 := U10.get1 h_b1 ne_b1_b9
          replace h_b9 := N10
          replace hF := hF.go1 U10 ge_b9
          refine join_cut (fun g w' => ∃ (cur3 : Int) (A3 : Option Addr) (n3 : Nat) (c3 : Nat) (l3 : List Gs.It), (Gs.normM ⟨aid, al, cur, Gs.its l⟩ = ⟨aid, al, cur3, Gs.normI (Gs.its l3)⟩) ∧ (n3 = l3.length) ∧ (rows Gs.ie l3 = [] ∨ ∀ k, blkOf A3 k → k ≠ b1) ∧ (l3 = [] ∨ ∀ k, Gs.clB l3 k → k ≠ b1) ∧ (n3 ≤ c3) ∧ (w'.heap[b1]? = some (.cells #[.int .u8 aid, .bool al, .int .i64 cur3, .slice A3 n3 c3] 26 (0, 0))) ∧ (Rd w' A3 (rows Gs.ie l3)) ∧ (Gs.Cl w' l3) ∧ (Rd w' Ab (vals .u8 bs)) ∧ (Rd w' A37 (rows Gs.ie l37)) ∧ (Gs.Cl w' l37) ∧ (w'.heap[b9]? = some (.cells #[.int .u8 q37.aid, .bool q37.alone, .int .i64 q37.cur, .slice A37 l37.length c37] 26 (0, 0))) ∧ (Upd no w w')) (fun J2 hJ2 => ?_) (fun gJ2 wJ2 hI => ?_)
          · refine opv_run (fieldAt_eq (off := 1) (by kernel_rfl)) ?_
            refine opv_b (ldC (by kernel_rfl) h_b1 (by rfl)) (fun h11 => ?_) (fun h11 => ?_)
            · refine condt ?_
              refine opv_run (fieldAt_eq (off := 2) (by kernel_rfl)) ?_
              refine store1_intro (by kernel_rfl) rfl rfl h_b1 (by first | exact Nat.le_of_ble_eq_true rfl | (simp; done) | omega | (simp [vals_length, *]; done) | (simp [vals_length, *]; omega)) (by first | (simp [vals_set]; rfl) | rfl) (fun w12 N12 _ U12 => ?_)
              replace rd := rd.upd1 U12 na_rd_b1
              replace rdc := rdc.upd1 U12 na_rdc_b1
              replace rdb := rdb.upd1 U12 na_rdb_b1
              replace own30 := own30.upd1 U12 (by first | assumption | exact Own.ne_blk own30 (by assumption) (by decide) | exact Own.not_loop own30 (by assumption) (by assumption) | exact Own.not_def own30 (by assumption) | exact Own.not_loop own30 (by assumption) (lp3 _))
              replace rd37 := rd37.upd1 U12 na_rd37_b1
              replace rdc37 := rdc37.upd1 U12 na_rdc37_b1
              replace h_gT := U12.get1 h_gT ne_gT_b1
              replace h_b9 := U12.get1 h_b9 (Ne.symm ne_b1_b9)
              replace h_b1 := N12
              replace hF := hF.go1 U12 ge_b1
              refine opv_run (fieldAt_eq (off := 3) (by kernel_rfl)) ?_
              refine store1_intro (by kernel_rfl) rfl rfl h_b1 (by first | exact Nat.le_of_ble_eq_true rfl | (simp; done) | omega | (simp [vals_length, *]; done) | (simp [vals_length, *]; omega)) (by first | (simp [vals_set]; rfl) | rfl) (fun w13 N13 _ U13 => ?_)
              replace rd := rd.upd1 U13 na_rd_b1
              replace rdc := rdc.upd1 U13 na_rdc_b1
              replace rdb := rdb.upd1 U13 na_rdb_b1
              replace own30 := own30.upd1 U13 (by first | assumption | exact Own.ne_blk own30 (by assumption) (by decide) | exact Own.not_loop own30 (by assumption) (by assumption) | exact Own.not_def own30 (by assumption) | exact Own.not_loop own30 (by assumption) (lp3 _))
              replace rd37 := rd37.upd1 U13 na_rd37_b1
              replace rdc37 := rdc37.upd1 U13 na_rdc37_b1
              replace h_gT := U13.get1 h_gT ne_gT_b1
              replace h_b9 := U13.get1 h_b9 (Ne.symm ne_b1_b9)
              replace h_b1 := N13
              replace hF := hF.go1 U13 ge_b1
              refine hJ2 _ _ ?_
              exact ⟨_, _, _, _, _, (by first | (rw [Gs.norm_na (show al = false from by assumption)]; congr; done) | (rw [Gs.norm_na (show al = false from by assumption), show al = false from by assumption]) | (rw [Gs.norm_al (show al = true from by assumption), show al = true from by assumption]; exact congrArg (fun z => (⟨aid, true, 0, z⟩ : Gs.Inb)) (show [] = Gs.normI (Gs.its []) from rfl))), (by first | exact hn | rfl), (by first | assumption | exact .inl rfl), (by first | assumption | exact .inl rfl), (by first | exact hcp | exact Nat.le_refl _), h_b1, (by first | exact rd | exact Rd.nil _ _), (by first | exact rdc | exact Gs.Cl.nil _), rdb, rd37, rdc37, h_b9, hF⟩
            · refine condf ?_
              refine hJ2 _ _ ?_
              exact ⟨_, _, _, _, _, (by first | (rw [Gs.norm_na (show al = false from by assumption)]; congr; done) | (rw [Gs.norm_na (show al = false from by assumption), show al = false from by assumption]) | (rw [Gs.norm_al (show al = true from by assumption), show al = true from by assumption]; exact congrArg (fun z => (⟨aid, true, 0, z⟩ : Gs.Inb)) (show [] = Gs.normI (Gs.its []) from rfl))), (by first | exact hn | rfl), (by first | assumption | exact .inl rfl), (by first | assumption | exact .inl rfl), (by first | exact hcp | exact Nat.le_refl _), h_b1, (by first | exact rd | exact Rd.nil _ _), (by first | exact rdc | exact Gs.Cl.nil _), rdb, rd37, rdc37, h_b9, hF⟩
          · obtain ⟨cur3, A3, n3, c3, l3, hno, hn3, nr3, nc3, hc3, h_b1, rd3, rdc3, rdb, rd37, rdc37, h_b9, hF⟩ := hI
            refine join_cut (fun g w' => ∃ (A4 : Option Addr) (n4 : Nat) (c4 : Nat) (l4 : List Gs.It), (Gs.normM ⟨aid, al, cur, Gs.its l⟩ = ⟨aid, al, cur3, Gs.its l4⟩) ∧ (n4 = l4.length) ∧ (w'.heap[b1]? = some (.cells #[.int .u8 aid, .bool al, .int .i64 cur3, .slice A4 n4 c4] 26 (0, 0))) ∧ (Rd w' A4 (rows Gs.ie l4)) ∧ (Gs.Cl w' l4) ∧ (Rd w' Ab (vals .u8 bs)) ∧ (Rd w' A37 (rows Gs.ie l37)) ∧ (Gs.Cl w' l37) ∧ (w'.heap[b9]? = some (.cells #[.int .u8 q37.aid, .bool q37.alone, .int .i64 q37.cur, .slice A37 l37.length c37] 26 (0, 0))) ∧ (Upd no w w')) (fun J3 hJ3 => ?_) (fun gJ3 wJ3 hI => ?_)
            · refine opv_run (fieldAt_eq (off := 3) (by kernel_rfl)) ?_
              refine opv_run (ldC (by kernel_rfl) h_b1 (by rfl)) ?_
              refine opv_run (len_sl (by kernel_rfl) _ _ _) ?_
              refine opv_dec (gtr _ _ _ _) (fun h14 => ?_) (fun h14 => ?_)
              · refine gdtt ?_
                refine opv_run (fieldAt_eq (off := 3) (by kernel_rfl)) ?_
                refine gdtt ?_
                refine opv_run (ldC (by kernel_rfl) h_b1 (by rfl)) ?_
                refine gdtt ?_
                refine idx_rowF (off := 0) Gs.encIt (fun x => .int .i64 x.at') (fun _ => rfl) (by decide) (by kernel_rfl) (by kernel_rfl) (by kernel_rfl) rd3 (by first | rfl | assumption | omega) (by omega) (by omega) (fun x15 hx15 => ?_)
                try simp only [Int.toNat_natCast] at hx15
                refine gdtt ?_
                refine opv_dec (eqI _ _ _ _ _) (fun h16 => ?_) (fun h16 => ?_)
                · refine pickt ?_
                  refine gdtt ?_
                  refine opv_run (fieldAt_eq (off := 3) (by kernel_rfl)) ?_
                  refine gdtt ?_
                  refine opv_run (ldC (by kernel_rfl) h_b1 (by rfl)) ?_
                  refine gdtt ?_
                  refine idx_rowF (off := 1) Gs.encIt (fun x => .slice x.A x.cs.length x.cp) (fun _ => rfl) (by decide) (by kernel_rfl) (by kernel_rfl) (by kernel_rfl) rd3 (by first | rfl | assumption | omega) (by omega) (by omega) (fun x17 hx17 => ?_)
                  try simp only [Int.toNat_natCast] at hx17
                  refine gdtt ?_
                  refine opv_run (len_sl (by kernel_rfl) _ _ _) ?_
                  refine gdtt ?_
                  refine opv_dec (eqI _ _ _ _ _) (fun h18 => ?_) (fun h18 => ?_)
                  · refine pickt ?_
                    refine condt ?_
                    refine opv_run (fieldAt_eq (off := 3) (by kernel_rfl)) ?_
                    refine opv_run (ldC (by kernel_rfl) h_b1 (by rfl)) ?_
                    refine sliceLoR Gs.encIt (by kernel_rfl) rd3 hn3 (by omega) (by omega) hc3 (fun A19 rd67 hA19 => ?_)
                    have rdc67 : Gs.Cl _ (l3.drop (1 : Int).toNat) := fun x hx => rdc3 x (List.mem_of_mem_drop hx)
                    have hn67 : n3 - (1 : Int).toNat = (l3.drop (1 : Int).toNat).length := by rw [List.length_drop]; omega
                    have nr67 : rows Gs.ie (l3.drop (1 : Int).toNat) = [] ∨ ∀ k, blkOf A19 k → k ≠ b1 := nr3.imp (fun e => by rw [← rows_drop Gs.encIt, e]; simp) (fun h k hk => h k (hA19 k hk))
                    have nc67 : l3.drop (1 : Int).toNat = [] ∨ ∀ k, Gs.clB (l3.drop (1 : Int).toNat) k → k ≠ b1 := nc3.imp (fun e => by rw [e]; rfl) (fun h k ⟨x, hx, r⟩ => h k ⟨x, List.mem_of_mem_drop hx, r⟩)
                    refine opv_run (fieldAt_eq (off := 3) (by kernel_rfl)) ?_
                    refine store1_intro (by kernel_rfl) rfl rfl h_b1 (by first | exact Nat.le_of_ble_eq_true rfl | (simp; done) | omega | (simp [vals_length, *]; done) | (simp [vals_length, *]; omega)) (by first | (simp [vals_set]; rfl) | rfl) (fun w20 N20 _ U20 => ?_)
                    replace rd3 := rd3.upd1 U20 (by assumption)
                    replace rdc3 := rdc3.upd1 U20 (by assumption)
                    replace rdb := rdb.upd1 U20 na_rdb_b1
                    replace rd37 := rd37.upd1 U20 na_rd37_b1
                    replace rdc37 := rdc37.upd1 U20 na_rdc37_b1
                    replace rd67 := rd67.upd1 U20 (by assumption)
                    replace rdc67 := rdc67.upd1 U20 (by assumption)
                    replace h_b9 := U20.get1 h_b9 (Ne.symm ne_b1_b9)
                    replace h_b1 := N20
                    replace hF := hF.go1 U20 ge_b1
                    refine hJ3 _ _ ?_
                    exact ⟨_, _, _, _, (by rw [hno]; congr 1; first | exact Gs.norm_t hx15 (by assumption) hx17 (by assumption) | exact Gs.norm_p hx15 (by assumption) | exact Gs.norm_c hx17 (by assumption) | exact Gs.norm_z (by omega)), (by first | exact hn67 | exact hn3), h_b1, (by first | exact rd67 | exact rd3), (by first | exact rdc67 | exact rdc3), rdb, rd37, rdc37, h_b9, hF⟩
                  · refine pickt ?_
                    refine condf ?_
                    refine hJ3 _ _ ?_
                    exact ⟨_, _, _, _, (by rw [hno]; congr 1; first | exact Gs.norm_t hx15 (by assumption) hx17 (by assumption) | exact Gs.norm_p hx15 (by assumption) | exact Gs.norm_c hx17 (by assumption) | exact Gs.norm_z (by omega)), (by first | exact hn67 | exact hn3), h_b1, (by first | exact rd67 | exact rd3), (by first | exact rdc67 | exact rdc3), rdb, rd37, rdc37, h_b9, hF⟩
                · refine pickt ?_
                  refine gdft ?_
                  refine gdft ?_
                  refine gdft ?_
                  refine gdft ?_
                  refine gdft ?_
                  refine gdft ?_
                  refine gdft ?_
                  refine pickf ?_
                  refine condf ?_
                  refine hJ3 _ _ ?_
                  exact ⟨_, _, _, _, (by rw [hno]; congr 1; first | exact Gs.norm_t hx15 (by assumption) hx17 (by assumption) | exact Gs.norm_p hx15 (by assumption) | exact Gs.norm_c hx17 (by assumption) | exact Gs.norm_z (by omega)), (by first | exact hn67 | exact hn3), h_b1, (by first | exact rd67 | exact rd3), (by first | exact rdc67 | exact rdc3), rdb, rd37, rdc37, h_b9, hF⟩
              · refine gdft ?_
                refine gdft ?_
                refine gdft ?_
                refine gdft ?_
                refine gdft ?_
                refine gdft ?_
                refine pickf ?_
                refine gdft ?_
                refine gdft ?_
                refine gdft ?_
                refine gdft ?_
                refine gdft ?_
                refine gdft ?_
                refine gdft ?_
                refine pickf ?_
                refine condf ?_
                refine hJ3 _ _ ?_
                exact ⟨_, _, _, _, (by rw [hno]; congr 1; first | exact Gs.norm_t hx15 (by assumption) hx17 (by assumption) | exact Gs.norm_p hx15 (by assumption) | exact Gs.norm_c hx17 (by assumption) | exact Gs.norm_z (by omega)), (by first | exact hn67 | exact hn3), h_b1, (by first | exact rd67 | exact rd3), (by first | exact rdc67 | exact rdc3), rdb, rd37, rdc37, h_b9, hF⟩
            · obtain ⟨A4, n4, c4, l4, hno4, hn4, h_b1, rd4, rdc4, rdb, rd37, rdc37, h_b9, hF⟩ := hI
              refine opv_F (neI _ _ _ _ _) (by decide) ?_
              refine gdff ?_
              refine opv_run (ldA (n := 4) (cs' := #[.int .u8 q37.aid, .bool q37.alone, .int .i64 q37.cur, .slice A37 l37.length c37]) (by kernel_rfl) h_b9 (by first | exact Nat.le_of_ble_eq_true rfl | (simp; done) | omega) (by rfl)) ?_
              refine gdff ?_
              refine opv_run (ldA (n := 4) (by kernel_rfl) h_b1 (by first | exact Nat.le_of_ble_eq_true rfl | (simp; done) | omega) (by rfl)) ?_
              refine gdff ?_
              refine callF_T (c_gr_Same rd37 rfl rdc37 rd4 hn4 rdc4 (by omega) (fun x hx => by have := hs37.2 x hx; omega)) (decide_eq_true (by rw [← hi37]; show q37 = _; rw [hq37, hno4])) (fun w21 U21 => ?_)
              replace rd4 := rd4.upd0 U21
              replace rdc4 := rdc4.upd0 U21
              replace rdb := rdb.upd0 U21
              replace rd37 := rd37.upd0 U21
              replace rdc37 := rdc37.upd0 U21
              replace h_b1 := U21.get0 h_b1
              replace h_b9 := U21.get0 h_b9
              replace hF := hF.go0 U21
              refine gdff ?_
              refine opv_run (notT) ?_
              refine pickf ?_
              refine condf ?_
              refine hJ1 _ _ ?_
              exact ⟨rdb, hF⟩
        · refine condf ?_
          refine hJ1 _ _ ?_
          exact ⟨rdb, hF⟩
      · obtain ⟨rdb, hF⟩ := hI
        refine callF_ex (c_gr_Parse rdb hnb hcb0 hbs (by omega)) (fun v22 w22 D22 => ?_)
        obtain ⟨q79, l79, A79, c79, hq79, hi79, rfl, rd79, rdc79, hw79, gA79, gC79, ha79, U22⟩ := D22
        replace rdb := rdb.upd0 U22
        replace hF := hF.go0 U22
        refine opv_run (ext_t (by rfl)) ?_
        refine opv_run (ext_t (by rfl)) ?_
        refine alloc_intro (cs := #[.int .u8 0, .bool false, .int .i64 0, .slice none 0 0]) (by kernel_rfl) (fun b23 w23 e23 h_b23 _ U23 => ?_)
        have na_rdb_b23 := rdb.apart e23
        have na_rd79_b23 := rd79.apart e23
        have na_rdc79_b23 := rdc79.apart e23
        have ge_b23 : w.heap.size ≤ b23 := by have := hF.size; omega
        replace rdb := rdb.upd0 U23
        replace rd79 := rd79.upd0 U23
        replace rdc79 := rdc79.upd0 U23
        replace hF := hF.go0 U23
        clear e23
        refine store_intro (n := 4) (cs' := #[.int .u8 q79.aid, .bool q79.alone, .int .i64 q79.cur, .slice A79 l79.length c79]) (by kernel_rfl) (by rfl) (by first | rfl | (simp [Value.cells, Value.oneCell', Gs.cv, Gs.ie]; done)) h_b23 (by first | exact Nat.le_of_ble_eq_true rfl | (simp; done) | omega) (by rfl) (fun w24 N24 _ U24 => ?_)
        replace rdb := rdb.upd1 U24 na_rdb_b23
        replace rd79 := rd79.upd1 U24 na_rd79_b23
        replace rdc79 := rdc79.upd1 U24 na_rdc79_b23
        replace h_b23 := N24
        replace hF := hF.go1 U24 ge_b23
        refine opv_dec (neI _ _ _ _ _) (fun h25 => ?_) (fun h25 => ?_)
        · refine condt ?_
          have hz79 : q79 = Gs.zinb := by rw [hq79]; exact Gs.inb_er0 (by assumption)
          have hl79 : l79.length = 0 := by rw [← Gs.its_len, ← hi79, hz79]; rfl
          refine opv_run (fieldAt_eq (off := 0) (by kernel_rfl)) ?_
          refine opv_run (ldC (by kernel_rfl) h_b23 (by rfl)) ?_
          refine opv_T (eqI _ _ _ _ _) (by rw [hz79]; rfl) ?_
          refine gdtt ?_
          refine opv_run (fieldAt_eq (off := 3) (by kernel_rfl)) ?_
          refine gdtt ?_
          refine opv_run (ldC (by kernel_rfl) h_b23 (by rfl)) ?_
          refine gdtt ?_
          refine opv_run (len_sl (by kernel_rfl) _ _ _) ?_
          refine gdtt ?_
          refine opv_T (eqI _ _ _ _ _) (by rw [hl79]; rfl) ?_
          refine pickt ?_
          exact ⟨rfl, hF⟩
        · refine condf ?_
          have hok79 : Gs.inbF bs = .ok q79 := by rw [hq79]; exact Gs.inb_ok0 (by first | assumption | exact Classical.not_not.1 (by assumption) | omega)
          have hs79 := Gs.its_wsum (l := l79) (m := 3000) (by rw [← hi79]; have := Gs.inbF_sum hok79; omega)
          obtain ⟨k95, hk95, hp95⟩ := Gs.inbF_may hbs hok79
          have hb95 := Gs.writeM_Bs ha79 (by rw [hi79]; exact Gs.its_Cws hw79) hk95
          have hl95 : k95.length ≤ 3003 := by have h1 := Gs.writeM_len hk95; have h2 := Gs.inbF_sum hok79; omega
          refine opv_run (ldA (n := 4) (cs' := #[.int .u8 q79.aid, .bool q79.alone, .int .i64 q79.cur, .slice A79 l79.length c79]) (by kernel_rfl) h_b23 (by first | exact Nat.le_of_ble_eq_true rfl | (simp; done) | omega) (by rfl)) ?_
          refine callF_ex (c_gr_Write (tot := 16384) rd79 rfl rdc79 (by omega) (fun x hx => by have := hs79.2 x hx; omega)) (fun v27 w27 D27 => ?_)
          obtain ⟨u95, rfl, own95, U27⟩ := D27
          rw [show Gs.writeM ⟨q79.aid, q79.alone, q79.cur, Gs.its l79⟩ 16384 = .ok k95 by rw [← hi79]; exact hk95] at own95 ⊢
          replace own95 : Own _ _ _ _ u95 (vals .u8 k95) := own95
          obtain ⟨A95, c95, rfl, rd95⟩ := own95.rd1
          have nx27_rdb_own95 : _ ∨ ∀ k, _ → ¬ ownS _ k := (rdb.lt).imp_right fun h k hk hs => by have := h k hk; have := (Own.ge own95 hs).1; omega
          have nx27_rd79_own95 : _ ∨ ∀ k, _ → ¬ ownS _ k := (rd79.lt).imp_right fun h k hk hs => by have := h k hk; have := (Own.ge own95 hs).1; omega
          have nx27_rdc79_own95 : _ ∨ ∀ k, _ → ¬ ownS _ k := (rdc79.lt).imp_right fun h k hk hs => by have := h k hk; have := (Own.ge own95 hs).1; omega
          have nx27_h_b23_own95 : ¬ ownS _ b23 := fun h => by have := (Own.ge own95 h).1; have := lt_get h_b23; omega
          replace own95 := own95.mono (B' := w.heap.size) hF.size
          replace rdb := rdb.upd0 U27
          replace rd79 := rd79.upd0 U27
          replace rdc79 := rdc79.upd0 U27
          replace h_b23 := U27.get0 h_b23
          replace hF := hF.go0 U27
          refine opv_run (ext_t (by rfl)) ?_
          refine opv_run (ext_t (by rfl)) ?_
          refine callF_ex (c_gr_Parse (bs := k95) own95.rdS rfl own95.le_cap hb95 (by omega)) (fun v28 w28 D28 => ?_)
          obtain ⟨q100, l100, A100, c100, hq100, hi100, rfl, rd100, rdc100, hw100, gA100, gC100, ha100, U28⟩ := D28
          rw [hp95]
          have na_rd100_b23 := gA100.ne (lt_get h_b23)
          have na_rd100_own95 : _ ∨ ∀ k, _ → ¬ ownS _ k := gA100.imp_right fun h k hk hs => by have := h k hk; have := (Own.ge own95 hs).2; omega
          have na_rdc100_b23 := gC100.ne (lt_get h_b23)
          have na_rdc100_own95 : _ ∨ ∀ k, _ → ¬ ownS _ k := gC100.imp_right fun h k hk hs => by have := h k hk; have := (Own.ge own95 hs).2; omega
          replace rdb := rdb.upd0 U28
          replace rd79 := rd79.upd0 U28
          replace rdc79 := rdc79.upd0 U28
          replace own95 := own95.upd0 U28
          replace h_b23 := U28.get0 h_b23
          replace hF := hF.go0 U28
          have hq100q : q100 = q79 := by rw [hq100]; unfold Gs.inbV; rw [hp95]
          refine opv_run (ext_t (by rfl)) ?_
          refine opv_run (ext_t (by rfl)) ?_
          refine alloc_intro (cs := #[.int .u8 0, .bool false, .int .i64 0, .slice none 0 0]) (by kernel_rfl) (fun b29 w29 e29 h_b29 _ U29 => ?_)
          have na_rdb_b29 := rdb.apart e29
          have na_rd79_b29 := rd79.apart e29
          have na_rdc79_b29 := rdc79.apart e29
          have ne_b23_b29 : b23 ≠ b29 := by have := lt_get h_b23; omega
          have na_own95_b29 := own95.apart e29
          have na_rd100_b29 := rd100.apart e29
          have na_rdc100_b29 := rdc100.apart e29
          have ge_b29 : w.heap.size ≤ b29 := by have := hF.size; omega
          replace rdb := rdb.upd0 U29
          replace rd79 := rd79.upd0 U29
          replace rdc79 := rdc79.upd0 U29
          replace own95 := own95.upd0 U29
          replace rd100 := rd100.upd0 U29
          replace rdc100 := rdc100.upd0 U29
          replace h_b23 := U29.get0 h_b23
          replace hF := hF.go0 U29
          clear e29
          refine store_intro (n := 4) (cs' := #[.int .u8 q100.aid, .bool q100.alone, .int .i64 q100.cur, .slice A100 l100.length c100]) (by kernel_rfl) (by rfl) (by first | rfl | (simp [Value.cells, Value.oneCell', Gs.cv, Gs.ie]; done)) h_b29 (by first | exact Nat.le_of_ble_eq_true rfl | (simp; done) | omega) (by rfl) (fun w30 N30 _ U30 => ?_)
          replace rdb := rdb.upd1 U30 na_rdb_b29
          replace rd79 := rd79.upd1 U30 na_rd79_b29
          replace rdc79 := rdc79.upd1 U30 na_rdc79_b29
          replace own95 := own95.upd1 U30 na_own95_b29
          replace rd100 := rd100.upd1 U30 na_rd100_b29
          replace rdc100 := rdc100.upd1 U30 na_rdc100_b29
          replace h_b23 := U30.get1 h_b23 ne_b23_b29
          replace h_b29 := N30
          replace hF := hF.go1 U30 ge_b29
          refine opv_T (eqI _ _ _ _ _) (rfl) ?_
          refine gdtt ?_
          refine gdtt ?_
          refine opv_T (eqI _ _ _ _ _) (rfl) ?_
          refine pickt ?_
          refine gdtt ?_
          refine opv_run (ldA (n := 4) (cs' := #[.int .u8 q100.aid, .bool q100.alone, .int .i64 q100.cur, .slice A100 l100.length c100]) (by kernel_rfl) h_b29 (by first | exact Nat.le_of_ble_eq_true rfl | (simp; done) | omega) (by rfl)) ?_
          refine gdtt ?_
          refine opv_run (ldA (n := 4) (cs' := #[.int .u8 q79.aid, .bool q79.alone, .int .i64 q79.cur, .slice A79 l79.length c79]) (by kernel_rfl) h_b23 (by first | exact Nat.le_of_ble_eq_true rfl | (simp; done) | omega) (by rfl)) ?_
          refine gdtt ?_
          refine callF_T (c_gr_Same rd100 rfl rdc100 rd79 rfl rdc79 (by have := congrArg List.length (hi100.symm.trans ((congrArg Gs.Inb.items hq100q).trans hi79)); simp only [Gs.its_len] at this; omega) (Gs.its_of (hi100.symm.trans ((congrArg Gs.Inb.items hq100q).trans hi79)) (p := fun _ c => c.length ≤ 100000) (fun y hy => by obtain ⟨x, hx, rfl⟩ := List.mem_map.1 hy; have := hs79.2 x hx; dsimp only; omega))) (decide_eq_true (by rw [← hi100, ← hi79]; exact hq100q)) (fun w31 U31 => ?_)
          replace rdb := rdb.upd0 U31
          replace rd79 := rd79.upd0 U31
          replace rdc79 := rdc79.upd0 U31
          replace own95 := own95.upd0 U31
          replace rd100 := rd100.upd0 U31
          replace rdc100 := rdc100.upd0 U31
          replace h_b23 := U31.get0 h_b23
          replace h_b29 := U31.get0 h_b29
          replace hF := hF.go0 U31
          refine pickt ?_
          exact ⟨rfl, hF⟩
  · replace rd := rd.upd0 U3
    replace rdc := rdc.upd0 U3
    replace rdb := rdb.upd0 U3
    replace h_gT := U3.get0 h_gT
    replace h_b1 := U3.get0 h_b1
    replace hF := hF.go0 U3
    try simp only [decide_eq_true_eq, decide_eq_false_iff_not] at h3
    refine opv_run (notF) ?_
    refine gdtf ?_
    refine gdtf ?_
    refine gdtf ?_
    refine pickt ?_
    refine condt ?_
    exact ⟨rfl, hF⟩

end Go.Proofs.YtkjkmahpkfbbnaaDoor
