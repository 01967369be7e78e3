/-
  Contracts of functions of the program, walked over their shallow forms. No condition but the ones that each states.
-/
import Derived.Test.YtjdoakbadehicaaGreatDoorGd
import Derived.Test.YtjdoakbadehicaaGreatDoorGramTx
import Derived.Test.YtjdoakbadehicaaGreatDoorBldC
import Derived.Test.YtjdoakbadehicaaGreatDoorShelf
namespace Go.Proofs.YtjdoakbadehicaaGreatDoor
open Go Go.Sh
set_option linter.unusedVariables false
set_option maxRecDepth 100000


theorem c_Itoa {n : Int} {w : World} {gT : Nat} {eT : TypeId} {fT : Nat × Nat} (hgT : Tryz.prog.globalNamed "internal/strconv.uint64pow10" = some gT) (h_gT : w.heap[gT]? = some (.cells Gs.powT eT fT)) (hn : -9223372036854775808 ≤ n ∧ n ≤ 9223372036854775807) :
    Calls Tryz.prog 77 #[.int .i64 n] w fun e w' => e = .returned (.string (Gs.itoaS n)) ∧ Upd no w w' :=
  (Go.Proofs.Tryz.strconv_Itoa n hn.1 hn.2 w (tab_of hgT h_gT)).mono fun e w' ⟨h, k, os, hw⟩ => ⟨h, by
    subst hw
    exact Fr.of_below (Lib.below_grow w.heap.size w (Nat.le_refl _) k os)⟩

/-- greenscreen/grammar.Text -/
theorem c_gr_Text {page : Int} {aid cur : Int} {al : Bool} {A : Option Addr} {n cp : Nat} {l : List Gs.It} {gT : Nat} {eT : TypeId} {fT : Nat × Nat} {w : World} (rd : Rd w A (rows Gs.ie l)) (hn : n = l.length) (rdc : Gs.Cl w l) (hgT : Tryz.prog.globalNamed "internal/strconv.uint64pow10" = some gT) (h_gT : w.heap[gT]? = some (.cells Gs.powT eT fT)) (ha : 0 ≤ aid ∧ aid ≤ 255) (hcur : -9223372036854775808 ≤ cur ∧ cur ≤ 9223372036854775807) (hiw : Gs.Iw l) (hat : ∀ x ∈ l, -9223372036854775808 ≤ x.at' ∧ x.at' ≤ 9223372036854775807) (hbd : n ≤ 100000) (hcb : ∀ x ∈ l, x.cs.length ≤ 100000) :
    Calls Tryz.prog 38 #[.int .i64 page, .agg #[.int .u8 aid, .bool al, .int .i64 cur, .slice A n cp]] w fun e w' => e = .returned (.string ⟨(Gs.txtL page ⟨aid, al, cur, Gs.its l⟩).toArray⟩) ∧ Upd no w w' := by
  refine F38.calls ?_
  unfold F38
  have hgl := lt_get h_gT
  have hns := Gs.nameS_size ha
  have his := Gs.itoaS_size hcur
  have hds := Gs.hdS_size ha hcur
  have h1s := Gs.size_32
  have h2s := Gs.size_61
  have h3s := Gs.size_3264
  have lt_rd := rd.lt
  have lt_rdc := rdc.lt
  have lt_h_gT := lt_get h_gT
  have hF : Upd no w w := Fr.refl _ _ _
  refine box_intro (cs := #[.int .u8 aid, .bool al, .int .i64 cur, .slice A n cp]) (by rfl) (fun b1 w1 e1 h_b1 _ U1 => ?_)
  have na_rd_b1 := rd.apart e1
  have na_rdc_b1 := rdc.apart e1
  have ne_gT_b1 : gT ≠ b1 := by have := lt_get h_gT; omega
  have ge_b1 : w.heap.size ≤ b1 := by have := hF.size; omega
  replace rd := rd.upd0 U1
  replace rdc := rdc.upd0 U1
  replace h_gT := U1.get0 h_gT
  replace hF := hF.go0 U1
  clear e1
  refine opv_run (fieldAt_eq (off := 1) (by kernel_rfl)) ?_
  refine opv_b (ldC (by kernel_rfl) h_b1 (by rfl)) (fun h2 => ?_) (fun h2 => ?_)
  · refine condt ?_
    refine opv_run (fieldAt_eq (off := 0) (by kernel_rfl)) ?_
    refine opv_run (ldC (by kernel_rfl) h_b1 (by rfl)) ?_
    refine callF_val (c_grammar_name ha) (fun w3 U3 => ?_)
    replace rd := rd.upd0 U3
    replace rdc := rdc.upd0 U3
    replace h_gT := U3.get0 h_gT
    replace h_b1 := U3.get0 h_b1
    replace hF := hF.go0 U3
    first | exact ⟨congrArg (fun s => Ending.returned (.string s)) ((Gs.str_eq _).trans (by rw [Gs.txt_al (show al = true from by assumption)])), hF⟩ | exact ⟨by rw [Gs.txt_na (show al = false from by assumption)], hF⟩
  · refine condf ?_
    refine alloc_intro (cs := #[.pointer none, .slice none 0 0]) (by kernel_rfl) (fun b5 w5 e5 h_b5 _ U5 => ?_)
    have na_rd_b5 := rd.apart e5
    have na_rdc_b5 := rdc.apart e5
    have ne_gT_b5 : gT ≠ b5 := by have := lt_get h_gT; omega
    have ne_b1_b5 : b1 ≠ b5 := by have := lt_get h_b1; omega
    have ge_b5 : w.heap.size ≤ b5 := by have := hF.size; omega
    replace rd := rd.upd0 U5
    replace rdc := rdc.upd0 U5
    replace h_gT := U5.get0 h_gT
    replace h_b1 := U5.get0 h_b1
    replace hF := hF.go0 U5
    have bld5 : Bld w.heap.size _ b5 (.slice none 0 0) (Lib.byteCells []) := Bld.new h_b5 _
    clear h_b5 e5
    refine drawn_S (S := (· = b5)) (fun w6 U6 => ?_)
    replace rd := rd.upd0 U6
    replace rdc := rdc.upd0 U6
    replace bld5 := bld5.upd0 U6
    replace h_gT := U6.get0 h_gT
    replace h_b1 := U6.get0 h_b1
    replace hF := hF.go0 U6
    refine qop_run (fun w' hw' => (fieldAt_eq (off := 0) (by kernel_rfl))) ?_
    refine qop_run (fun w' hw' => by have h_b1 := hw'.get1 h_b1 ne_b1_b5; exact (ldC (by kernel_rfl) h_b1 (by rfl))) ?_
    refine qop_call (fun w' hw' => c_grammar_name ha) ?_
    refine qop_run (fun w' hw' => (addS (by first | omega | (simp only [Gs.size_app]; omega)))) ?_
    refine qop_run (fun w' hw' => (fieldAt_eq (off := 2) (by kernel_rfl))) ?_
    refine qop_run (fun w' hw' => by have h_b1 := hw'.get1 h_b1 ne_b1_b5; exact (ldC (by kernel_rfl) h_b1 (by rfl))) ?_
    refine qop_call (fun w' hw' => by have h_gT := hw'.get1 h_gT ne_gT_b5; exact c_Itoa hgT h_gT hcur) ?_
    refine qop_run (fun w' hw' => (addS (by first | omega | (simp only [Gs.size_app]; omega)))) ?_
    refine ext_intro (fun w11 U11 => ?_)
    replace rd := rd.upd0 U11
    replace rdc := rdc.upd0 U11
    replace bld5 := bld5.upd0 U11
    replace h_gT := U11.get0 h_gT
    replace h_b1 := U11.get0 h_b1
    replace hF := hF.go0 U11
    refine lop_i ?_
    refine callF_ex (c_WriteString bld5 (Nat.zero_le _) (by first | omega | (simp only [Gs.size_app]; omega)) (by have := hF.size; omega)) (fun x12 w12 D12 => ?_)
    obtain ⟨vb12, N12, U12⟩ := D12
    have bld5_o := bld5
    replace rd := rd.updS U12 (na_rd_b5.elim .inl fun h1 => lt_rd.imp_right fun h2 k hk hs => Or.elim hs (fun e => absurd e (h1 k hk)) (fun h => by have := h2 k hk; have := Bld.ge bld5_o h; omega))
    replace rdc := rdc.updS U12 (na_rdc_b5.elim .inl fun h1 => lt_rdc.imp_right fun h2 k hk hs => Or.elim hs (fun e => absurd e (h1 k hk)) (fun h => by have := h2 k hk; have := Bld.ge bld5_o h; omega))
    replace h_gT := U12.get h_gT (fun hs => Or.elim hs (fun e => absurd e ne_gT_b5) (fun h => by first | (have := Bld.ge bld5_o h; omega) | exact Own.ne_blk bld5_o.2.1 h_gT (by decide) _ h rfl | exact Own.not_loop bld5_o.2.1 h_gT (by assumption) _ h rfl | exact Own.not_def bld5_o.2.1 h_gT _ h rfl))
    replace h_b1 := U12.get h_b1 (fun hs => Or.elim hs (fun e => absurd e ne_b1_b5) (fun h => by first | (have := Bld.ge bld5_o h; omega) | exact Own.ne_blk bld5_o.2.1 h_b1 (by decide) _ h rfl | exact Own.not_loop bld5_o.2.1 h_b1 (by assumption) _ h rfl | exact Own.not_def bld5_o.2.1 h_b1 _ h rfl))
    replace hF := hF.go U12 (fun i h hs => Or.elim hs (fun e => by have := ge_b5; omega) (fun h => by have := Bld.ge bld5_o h; omega))
    replace bld5 := N12
    clear bld5_o
    refine ⟨(Fr.refl _ _ _).go U12 (fun _ _ h => h.elim id (fun h => by cases h)), ?_⟩
    refine ext_intro (fun w13 U13 => ?_)
    replace rd := rd.upd0 U13
    replace rdc := rdc.upd0 U13
    replace bld5 := bld5.upd0 U13
    replace h_gT := U13.get0 h_gT
    replace h_b1 := U13.get0 h_b1
    replace hF := hF.go0 U13
    refine join_cut (fun g w' => ∃ (v5 : Value), (Bld w.heap.size w' b5 v5 (Lib.byteCells ((Gs.hdS aid cur).data.toList ++ (Gs.its l).flatMap (Gs.itL page)))) ∧ (Upd no w w')) (fun J1 hJ1 => ?_) (fun gJ1 wJ1 hI => ?_)
    · refine opv_run (fieldAt_eq (off := 3) (by kernel_rfl)) ?_
      refine opv_run (ldC (by kernel_rfl) h_b1 (by rfl)) ?_
      refine opv_run (len_sl (by kernel_rfl) _ _ _) ?_
      refine loop_intro (fun g w' => ∃ (k : Nat) (v5 : Value), (g 28 = .int .i64 (k : Int)) ∧ (k ≤ l.length) ∧ (Bld w.heap.size w' b5 v5 (Lib.byteCells ((Gs.hdS aid cur).data.toList ++ (Gs.its (l.take k)).flatMap (Gs.itL page)))) ∧ (w'.heap[b1]? = some (.cells #[.int .u8 aid, .bool al, .int .i64 cur, .slice A n cp] 48 (0, 0))) ∧ (Rd w' A (rows Gs.ie l)) ∧ (Gs.Cl w' l) ∧ (w'.heap[gT]? = some (.cells Gs.powT eT fT)) ∧ (Upd no w w')) (fun g w' => l.length - (RowKit.intOf (g 28)).toNat) ?_ (fun g2 wl2 hI => ?_)
      · exact ⟨0, _, (by first | exact g28 | rfl), Nat.zero_le _, (by simpa [Gs.hdS, Gs.its] using bld5), h_b1, rd, rdc, h_gT, hF⟩
      · obtain ⟨k, v5, g28, hk, bld5, h_b1, rd, rdc, h_gT, hF⟩ := hI
        try rw [g28]
        have hfl := Gs.itsL_len (page := page) hiw hat hcb k
        refine opv_dec (lss _ _ _ _) (fun h14 => ?_) (fun h14 => ?_)
        · refine condt ?_
          refine join_cut (fun g w' => ∃ (v5 : Value), (Bld w.heap.size w' b5 v5 (Lib.byteCells ((Gs.hdS aid cur).data.toList ++ (Gs.its (l.take (k + 1))).flatMap (Gs.itL page)))) ∧ (w'.heap[b1]? = some (.cells #[.int .u8 aid, .bool al, .int .i64 cur, .slice A n cp] 48 (0, 0))) ∧ (Rd w' A (rows Gs.ie l)) ∧ (Gs.Cl w' l) ∧ (w'.heap[gT]? = some (.cells Gs.powT eT fT)) ∧ (Upd no w w')) (fun J3 hJ3 => ?_) (fun gJ3 wJ3 hI => ?_)
          · refine idx_rows Gs.encIt (by kernel_rfl) (by kernel_rfl) rd (by first | rfl | assumption | omega) (by omega) (by omega) (fun x15 hx15 => ?_)
            try simp only [Int.toNat_natCast] at hx15
            refine alloc_intro (cs := #[.int .i64 0, .slice none 0 0]) (by kernel_rfl) (fun b16 w16 e16 h_b16 _ U16 => ?_)
            have na_bld5_b16 := bld5.apart e16
            have ne_b1_b16 : b1 ≠ b16 := by have := lt_get h_b1; omega
            have na_rd_b16 := rd.apart e16
            have na_rdc_b16 := rdc.apart e16
            have ne_gT_b16 : gT ≠ b16 := by have := lt_get h_gT; omega
            have ge_b16 : w.heap.size ≤ b16 := by have := hF.size; omega
            replace bld5 := bld5.upd0 U16
            replace rd := rd.upd0 U16
            replace rdc := rdc.upd0 U16
            replace h_b1 := U16.get0 h_b1
            replace h_gT := U16.get0 h_gT
            replace hF := hF.go0 U16
            clear e16
            refine store_intro (n := 2) (cs' := (Gs.ie x15).toArray) (by kernel_rfl) (by rfl) (by first | rfl | (simp [Value.cells, Value.oneCell', Gs.cv, Gs.ie]; done)) h_b16 (by first | exact Nat.le_of_ble_eq_true rfl | (simp; done) | omega) (by rfl) (fun w17 N17 _ U17 => ?_)
            replace bld5 := bld5.upd1 U17 na_bld5_b16
            replace rd := rd.upd1 U17 na_rd_b16
            replace rdc := rdc.upd1 U17 na_rdc_b16
            replace h_b1 := U17.get1 h_b1 ne_b1_b16
            replace h_gT := U17.get1 h_gT ne_gT_b16
            replace h_b16 := N17
            replace hF := hF.go1 U17 ge_b16
            refine opv_run (fieldAt_eq (off := 0) (by kernel_rfl)) ?_
            refine opv_run (ldC (by kernel_rfl) h_b16 (by rfl)) ?_
            refine callF_val (c_Itoa hgT h_gT (hat _ (List.mem_of_getElem? hx15))) (fun w18 U18 => ?_)
            replace bld5 := bld5.upd0 U18
            replace rd := rd.upd0 U18
            replace rdc := rdc.upd0 U18
            replace h_b1 := U18.get0 h_b1
            replace h_gT := U18.get0 h_gT
            replace h_b16 := U18.get0 h_b16
            replace hF := hF.go0 U18
            refine join_cut (fun g w' => (g 8 = .string (Gs.itP x15.at')) ∧ (Bld w.heap.size w' b5 v5 (Lib.byteCells ((Gs.hdS aid cur).data.toList ++ (Gs.its (l.take k)).flatMap (Gs.itL page)))) ∧ (w'.heap[b1]? = some (.cells #[.int .u8 aid, .bool al, .int .i64 cur, .slice A n cp] 48 (0, 0))) ∧ (w'.heap[b16]? = some (.cells (Gs.ie x15).toArray 54 (0, 0))) ∧ (Rd w' A (rows Gs.ie l)) ∧ (Gs.Cl w' l) ∧ (w'.heap[gT]? = some (.cells Gs.powT eT fT)) ∧ (b16 ≠ b5) ∧ (Upd no w w')) (fun J4 hJ4 => ?_) (fun gJ4 wJ4 hI => ?_)
            · refine opv_run (fieldAt_eq (off := 0) (by kernel_rfl)) ?_
              refine opv_run (ldC (by kernel_rfl) h_b16 (by rfl)) ?_
              refine opv_dec (eqI _ _ _ _ _) (fun h19 => ?_) (fun h19 => ?_)
              · refine condt ?_
                refine hJ4 _ _ ?_
                exact ⟨(by first | (rw [Gs.itP, if_pos (by assumption)]; rfl) | (rw [Gs.itP, if_neg (by assumption)]; rfl)), bld5, h_b1, h_b16, rd, rdc, h_gT, (fun e => na_bld5_b16 _ (.inl rfl) e.symm), hF⟩
              · refine condf ?_
                refine hJ4 _ _ ?_
                exact ⟨(by first | (rw [Gs.itP, if_pos (by assumption)]; rfl) | (rw [Gs.itP, if_neg (by assumption)]; rfl)), bld5, h_b1, h_b16, rd, rdc, h_gT, (fun e => na_bld5_b16 _ (.inl rfl) e.symm), hF⟩
            · obtain ⟨g8, bld5, h_b1, h_b16, rd, rdc, h_gT, hne57, hF⟩ := hI
              try rw [g8]
              have hps := Gs.itP_size (hat _ (List.mem_of_getElem? hx15))
              refine opv_run (addS (by first | omega | (simp only [Gs.size_app]; omega))) ?_
              refine opv_run (addS (by first | omega | (simp only [Gs.size_app]; omega))) ?_
              refine callF_ex (c_WriteString bld5 (by simp only [List.length_append, Gs.size_data, Gs.size_app]; omega) (by first | omega | (simp only [Gs.size_app]; omega)) (by have := hF.size; omega)) (fun x22 w22 D22 => ?_)
              obtain ⟨vb22, N22, U22⟩ := D22
              have bld5_o := bld5
              replace rd := rd.updS U22 (na_rd_b5.elim .inl fun h1 => lt_rd.imp_right fun h2 k hk hs => Or.elim hs (fun e => absurd e (h1 k hk)) (fun h => by have := h2 k hk; have := Bld.ge bld5_o h; omega))
              replace rdc := rdc.updS U22 (na_rdc_b5.elim .inl fun h1 => lt_rdc.imp_right fun h2 k hk hs => Or.elim hs (fun e => absurd e (h1 k hk)) (fun h => by have := h2 k hk; have := Bld.ge bld5_o h; omega))
              replace h_b1 := U22.get h_b1 (fun hs => Or.elim hs (fun e => absurd e ne_b1_b5) (fun h => by first | (have := Bld.ge bld5_o h; omega) | exact Own.ne_blk bld5_o.2.1 h_b1 (by decide) _ h rfl | exact Own.not_loop bld5_o.2.1 h_b1 (by assumption) _ h rfl | exact Own.not_def bld5_o.2.1 h_b1 _ h rfl))
              replace h_b16 := U22.get h_b16 (fun hs => Or.elim hs (fun e => absurd e (by first | omega | exact fun e => na_bld5_b16 _ (.inl rfl) e.symm | exact fun e => na_bld5_b5 _ (.inl rfl) e | exact blk_ne (by assumption) (by assumption) (by decide) | exact blk_not_loop (by assumption) (by assumption) (by assumption) | exact Ne.symm (blk_not_loop (by assumption) (by assumption) (by assumption)) | exact blk_not_def (by assumption) (by assumption) | exact Ne.symm (blk_not_def (by assumption) (by assumption)) | exact def_ne_blk (by assumption) (by assumption) | exact Ne.symm (def_ne_blk (by assumption) (by assumption)))) (fun h => by first | (have := Bld.ge bld5_o h; omega) | exact Own.ne_blk bld5_o.2.1 h_b16 (by decide) _ h rfl | exact Own.not_loop bld5_o.2.1 h_b16 (by assumption) _ h rfl | exact Own.not_def bld5_o.2.1 h_b16 _ h rfl))
              replace h_gT := U22.get h_gT (fun hs => Or.elim hs (fun e => absurd e ne_gT_b5) (fun h => by first | (have := Bld.ge bld5_o h; omega) | exact Own.ne_blk bld5_o.2.1 h_gT (by decide) _ h rfl | exact Own.not_loop bld5_o.2.1 h_gT (by assumption) _ h rfl | exact Own.not_def bld5_o.2.1 h_gT _ h rfl))
              replace hF := hF.go U22 (fun i h hs => Or.elim hs (fun e => by have := ge_b5; omega) (fun h => by have := Bld.ge bld5_o h; omega))
              replace bld5 := N22
              clear bld5_o
              refine opv_run (fieldAt_eq (off := 1) (by kernel_rfl)) ?_
              refine opv_run (ldC (by kernel_rfl) h_b16 (by rfl)) ?_
              refine opv_run (len_sl (by kernel_rfl) _ _ _) ?_
              refine loop_intro (fun g w' => ∃ (m : Nat) (v5 : Value), (g 45 = .int .i64 (m : Nat)) ∧ (m ≤ (x15).cs.length) ∧ (Bld w.heap.size w' b5 v5 (Lib.byteCells ((Gs.hdS aid cur).data.toList ++ (Gs.its (l.take k)).flatMap (Gs.itL page) ++ (⟨#[32]⟩ ++ Gs.itP x15.at' ++ ⟨#[61]⟩ : ByteArray).data.toList ++ ((x15).cs.take m).flatMap (Gs.sgB page)))) ∧ (w'.heap[b1]? = some (.cells #[.int .u8 aid, .bool al, .int .i64 cur, .slice A n cp] 48 (0, 0))) ∧ (w'.heap[b16]? = some (.cells (Gs.ie x15).toArray 54 (0, 0))) ∧ (Rd w' A (rows Gs.ie l)) ∧ (Gs.Cl w' l) ∧ (w'.heap[gT]? = some (.cells Gs.powT eT fT)) ∧ (Upd no w w')) (fun g w' => (x15).cs.length - (RowKit.intOf (g 45)).toNat) ?_ (fun g5 wl5 hI => ?_)
              · exact ⟨0, _, rfl, (by omega), (by simpa using bld5), h_b1, h_b16, rd, rdc, h_gT, hF⟩
              · obtain ⟨m, v5, g45, hm, bld5, h_b1, h_b16, rd, rdc, h_gT, hF⟩ := hI
                try rw [g45]
                have hsl := Gs.sgs_len (page := page) (xs := (x15).cs) (k := m) (hiw _ (List.mem_of_getElem? hx15))
                have hcl := hcb _ (List.mem_of_getElem? hx15)
                refine opv_dec (lss _ _ _ _) (fun h23 => ?_) (fun h23 => ?_)
                · refine condt ?_
                  refine idx_rows Gs.encC (by kernel_rfl) (by kernel_rfl) (rdc.get hx15) (by first | rfl | assumption | omega) (by omega) (by omega) (fun x24 hx24 => ?_)
                  try simp only [Int.toNat_natCast] at hx24
                  refine alloc_intro (cs := (Gs.cv Gs.zc).toArray) (by kernel_rfl) (fun b25 w25 e25 h_b25 _ U25 => ?_)
                  have na_bld5_b25 := bld5.apart e25
                  have ne_b1_b25 : b1 ≠ b25 := by have := lt_get h_b1; omega
                  have ne_b16_b25 : b16 ≠ b25 := by have := lt_get h_b16; omega
                  have na_rd_b25 := rd.apart e25
                  have na_rdc_b25 := rdc.apart e25
                  have ne_gT_b25 : gT ≠ b25 := by have := lt_get h_gT; omega
                  have ge_b25 : w.heap.size ≤ b25 := by have := hF.size; omega
                  replace bld5 := bld5.upd0 U25
                  replace rd := rd.upd0 U25
                  replace rdc := rdc.upd0 U25
                  replace h_b1 := U25.get0 h_b1
                  replace h_b16 := U25.get0 h_b16
                  replace h_gT := U25.get0 h_gT
                  replace hF := hF.go0 U25
                  clear e25
                  refine store_intro (n := 5) (cs' := (Gs.cv x24).toArray) (by kernel_rfl) (by rfl) (by first | rfl | (simp [Value.cells, Value.oneCell', Gs.cv, Gs.ie]; done)) h_b25 (by first | exact Nat.le_of_ble_eq_true rfl | (simp; done) | omega) (by rfl) (fun w26 N26 _ U26 => ?_)
                  replace bld5 := bld5.upd1 U26 na_bld5_b25
                  replace rd := rd.upd1 U26 na_rd_b25
                  replace rdc := rdc.upd1 U26 na_rdc_b25
                  replace h_b1 := U26.get1 h_b1 ne_b1_b25
                  replace h_b16 := U26.get1 h_b16 ne_b16_b25
                  replace h_gT := U26.get1 h_gT ne_gT_b25
                  replace h_b25 := N26
                  replace hF := hF.go1 U26 ge_b25
                  refine opv_run (ldA (n := 5) (cs' := (Gs.cv x24).toArray) (by kernel_rfl) h_b25 (by first | exact Nat.le_of_ble_eq_true rfl | (simp; done) | omega) (by rfl)) ?_
                  refine callF_val (c_grammar_sign (hiw _ (List.mem_of_getElem? hx15) _ (List.mem_of_getElem? hx24))) (fun w27 U27 => ?_)
                  replace bld5 := bld5.upd0 U27
                  replace rd := rd.upd0 U27
                  replace rdc := rdc.upd0 U27
                  replace h_b1 := U27.get0 h_b1
                  replace h_b16 := U27.get0 h_b16
                  replace h_gT := U27.get0 h_gT
                  replace h_b25 := U27.get0 h_b25
                  replace hF := hF.go0 U27
                  refine callF_ex (c_WriteString bld5 (by simp only [List.length_append, Gs.size_data, Gs.size_app]; omega) (by have := Gs.sgE_size (page := page) (hiw _ (List.mem_of_getElem? hx15) _ (List.mem_of_getElem? hx24)); omega) (by have := hF.size; omega)) (fun x28 w28 D28 => ?_)
                  obtain ⟨vb28, N28, U28⟩ := D28
                  have bld5_o := bld5
                  replace rd := rd.updS U28 (na_rd_b5.elim .inl fun h1 => lt_rd.imp_right fun h2 k hk hs => Or.elim hs (fun e => absurd e (h1 k hk)) (fun h => by have := h2 k hk; have := Bld.ge bld5_o h; omega))
                  replace rdc := rdc.updS U28 (na_rdc_b5.elim .inl fun h1 => lt_rdc.imp_right fun h2 k hk hs => Or.elim hs (fun e => absurd e (h1 k hk)) (fun h => by have := h2 k hk; have := Bld.ge bld5_o h; omega))
                  replace h_b1 := U28.get h_b1 (fun hs => Or.elim hs (fun e => absurd e ne_b1_b5) (fun h => by first | (have := Bld.ge bld5_o h; omega) | exact Own.ne_blk bld5_o.2.1 h_b1 (by decide) _ h rfl | exact Own.not_loop bld5_o.2.1 h_b1 (by assumption) _ h rfl | exact Own.not_def bld5_o.2.1 h_b1 _ h rfl))
                  replace h_b16 := U28.get h_b16 (fun hs => Or.elim hs (fun e => absurd e (by first | omega | exact fun e => na_bld5_b16 _ (.inl rfl) e.symm | exact fun e => na_bld5_b5 _ (.inl rfl) e | exact blk_ne (by assumption) (by assumption) (by decide) | exact blk_not_loop (by assumption) (by assumption) (by assumption) | exact Ne.symm (blk_not_loop (by assumption) (by assumption) (by assumption)) | exact blk_not_def (by assumption) (by assumption) | exact Ne.symm (blk_not_def (by assumption) (by assumption)) | exact def_ne_blk (by assumption) (by assumption) | exact Ne.symm (def_ne_blk (by assumption) (by assumption)))) (fun h => by first | (have := Bld.ge bld5_o h; omega) | exact Own.ne_blk bld5_o.2.1 h_b16 (by decide) _ h rfl | exact Own.not_loop bld5_o.2.1 h_b16 (by assumption) _ h rfl | exact Own.not_def bld5_o.2.1 h_b16 _ h rfl))
                  replace h_gT := U28.get h_gT (fun hs => Or.elim hs (fun e => absurd e ne_gT_b5) (fun h => by first | (have := Bld.ge bld5_o h; omega) | exact Own.ne_blk bld5_o.2.1 h_gT (by decide) _ h rfl | exact Own.not_loop bld5_o.2.1 h_gT (by assumption) _ h rfl | exact Own.not_def bld5_o.2.1 h_gT _ h rfl))
                  replace h_b25 := U28.get h_b25 (fun hs => Or.elim hs (fun e => absurd e (by first | omega | exact fun e => na_bld5_b25 _ (.inl rfl) e.symm | exact fun e => na_bld5_b5 _ (.inl rfl) e | exact blk_ne (by assumption) (by assumption) (by decide) | exact blk_not_loop (by assumption) (by assumption) (by assumption) | exact Ne.symm (blk_not_loop (by assumption) (by assumption) (by assumption)) | exact blk_not_def (by assumption) (by assumption) | exact Ne.symm (blk_not_def (by assumption) (by assumption)) | exact def_ne_blk (by assumption) (by assumption) | exact Ne.symm (def_ne_blk (by assumption) (by assumption)))) (fun h => by first | (have := Bld.ge bld5_o h; omega) | exact Own.ne_blk bld5_o.2.1 h_b25 (by decide) _ h rfl | exact Own.not_loop bld5_o.2.1 h_b25 (by assumption) _ h rfl | exact Own.not_def bld5_o.2.1 h_b25 _ h rfl))
                  replace hF := hF.go U28 (fun i h hs => Or.elim hs (fun e => by have := ge_b5; omega) (fun h => by have := Bld.ge bld5_o h; omega))
                  replace bld5 := N28
                  clear bld5_o
                  first | refine opv_run (add_i64 _ (by omega)) ?_ | refine opv_run (addI _ _ _ _) ?_
                  exact ⟨⟨m + 1, _, rfl, (by omega), (by rw [Gs.flat_step hx24, ← List.append_assoc]; exact bld5), h_b1, h_b16, rd, rdc, h_gT, hF⟩, cnt_lt (by first | rfl | exact g45) rfl (by omega)⟩
                · refine condf ?_
                  refine hJ3 _ _ ?_
                  exact ⟨_, (by rw [Gs.its_tk hx15, ← List.append_assoc, ← List.append_assoc]; rw [List.take_of_length_le (l := (x15).cs) (by omega)] at bld5; exact bld5), h_b1, rd, rdc, h_gT, hF⟩
          · obtain ⟨v5, bld5, h_b1, rd, rdc, h_gT, hF⟩ := hI
            first | refine opv_run (add_i64 _ (by omega)) ?_ | refine opv_run (addI _ _ _ _) ?_
            exact ⟨⟨k + 1, _, (by first | exact g28 | rfl), by omega, bld5, h_b1, rd, rdc, h_gT, hF⟩, cnt_lt (by first | rfl | exact g28) rfl (by omega)⟩
        · refine condf ?_
          refine hJ1 _ _ ?_
          exact ⟨_, (by rw [List.take_of_length_le (by omega)] at bld5; exact bld5), hF⟩
    · obtain ⟨v5, bld5, hF⟩ := hI
      have hfl := Gs.itsL_len (page := page) hiw hat hcb l.length
      rw [List.take_length] at hfl
      refine callF_val (c_StringU bld5 (by simp only [List.length_append, Gs.size_data]; omega)) (fun w29 U29 => ?_)
      replace hF := hF.go U29 (fun i h hs => by have := Bld.ge bld5 hs; omega)
      first | exact ⟨congrArg (fun s => Ending.returned (.string s)) ((Gs.str_eq _).trans (by rw [Gs.txt_al (show al = true from by assumption)])), hF⟩ | exact ⟨by rw [Gs.txt_na (show al = false from by assumption)], hF⟩

end Go.Proofs.YtjdoakbadehicaaGreatDoor
