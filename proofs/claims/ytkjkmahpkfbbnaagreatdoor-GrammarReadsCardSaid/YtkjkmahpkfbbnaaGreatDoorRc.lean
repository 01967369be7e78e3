/-
  Contracts of functions of the program, walked over their shallow forms. No condition but the ones that each states.
-/
import Derived.Test.YtkjkmahpkfbbnaaGreatDoorRay2
import Derived.Test.YtkjkmahpkfbbnaaGreatDoorRb
import Derived.Test.YtkjkmahpkfbbnaaGreatDoorGf
import Derived.Test.YtkjkmahpkfbbnaaGreatDoorFL
import Derived.Test.YtkjkmahpkfbbnaaGreatDoorGramReadsA
namespace Go.Proofs.YtkjkmahpkfbbnaaGreatDoor
open Go Go.Sh
set_option linter.unusedVariables false
set_option maxRecDepth 100000


/-- greenscreen/greenscreenlaw25.stands -/
theorem c_law_stands {c : Gs.Cell} {w : World} (hc : 0 ≤ c.b ∧ c.b ≤ 255) :
    Calls Tryz.prog 15 #[.agg (Gs.cv c).toArray] w fun e w' => e = .returned (.agg (Gs.cv (Gs.standM c)).toArray) ∧ Upd no w w' := by
  refine F15.calls ?_
  unfold F15
  have hF : Upd no w w := Fr.refl _ _ _
  refine box_intro (cs := (Gs.cv c).toArray) (by rfl) (fun b1 w1 e1 h_b1 _ U1 => ?_)
  have ge_b1 : w.heap.size ≤ b1 := by have := hF.size; omega
  replace hF := hF.go0 U1
  clear e1
  refine alloc_intro (cs := (Gs.cv Gs.zc).toArray) (by kernel_rfl) (fun b2 w2 e2 h_b2 _ U2 => ?_)
  have ne_b1_b2 : b1 ≠ b2 := by have := lt_get h_b1; omega
  have ge_b2 : w.heap.size ≤ b2 := by have := hF.size; omega
  replace h_b1 := U2.get0 h_b1
  replace hF := hF.go0 U2
  clear e2
  refine opv_run (fieldAt_eq (off := 2) (by kernel_rfl)) ?_
  refine opv_b (ldC (by kernel_rfl) h_b1 (by rfl)) (fun h3 => ?_) (fun h3 => ?_)
  · refine condt ?_
    refine opv_run (fieldAt_eq (off := 0) (by kernel_rfl)) ?_
    refine opv_run (ldC (by kernel_rfl) h_b1 (by rfl)) ?_
    refine opv_run (and8_63 _ (by omega)) ?_
    refine opv_run (build_eq (l := [(0, 1), (1, 1), (2, 1), (3, 1), (4, 1)]) (z := #[.int .u8 0, .bool false, .bool false, .int .u8 0, .int .u8 0]) (cs := Gs.cv ⟨(c.b % 64), false, true, 0, 0⟩) (by kernel_rfl) (by rfl)) ?_
    refine store_intro (n := 5) (cs' := (Gs.cv ⟨(c.b % 64), false, true, 0, 0⟩).toArray) (by kernel_rfl) (by rfl) (by first | rfl | (simp [Value.cells, Value.oneCell', Gs.cv, Gs.fv, Gs.ie]; done)) h_b2 (by first | exact Nat.le_of_ble_eq_true rfl | (simp; done) | omega) (by rfl) (fun w5 N5 _ U5 => ?_)
    replace h_b1 := U5.get1 h_b1 ne_b1_b2
    replace h_b2 := N5
    replace hF := hF.go1 U5 ge_b2
    refine ldv_run (ldA (n := 5) (by kernel_rfl) h_b2 (by first | exact Nat.le_of_ble_eq_true rfl | simp | omega) (by rfl)) ?_
    first | exact ⟨congrArg (fun q => Ending.returned (.agg (Gs.cv q).toArray)) (Gs.stand_T (by assumption)), hF⟩ | exact ⟨congrArg (fun q => Ending.returned (.agg (Gs.cv q).toArray)) (Gs.stand_F (by assumption) hx?), hF⟩
  · refine condf ?_
    refine opv_run (ldA (n := 5) (cs' := (Gs.cv c).toArray) (by kernel_rfl) h_b1 (by first | exact Nat.le_of_ble_eq_true rfl | (simp; done) | omega) (by rfl)) ?_
    refine callF_ex (c_ref23_Bytes) (fun v7 w7 D7 => ?_)
    obtain ⟨own11, U7⟩ := D7
    obtain ⟨A11, c11, rfl, _⟩ := own11.rd1
    have nx7_h_b1_own11 : ¬ ownS _ b1 := fun h => by have := (Own.ge own11 h).1; have := lt_get h_b1; omega
    have nx7_h_b2_own11 : ¬ ownS _ b2 := fun h => by have := (Own.ge own11 h).1; have := lt_get h_b2; omega
    replace own11 := own11.mono (B' := w.heap.size) hF.size
    replace h_b1 := U7.get0 h_b1
    replace h_b2 := U7.get0 h_b2
    replace hF := hF.go0 U7
    have hbp := Gs.bytes_pos c
    have hbl := Gs.bytes_len c
    refine drawn_S (S := no) (fun w8 U8 => ?_)
    replace own11 := own11.upd0 U8
    replace h_b1 := U8.get0 h_b1
    replace h_b2 := U8.get0 h_b2
    replace hF := hF.go0 U8
    refine qop_run (fun w' hw' => (len_sl (by kernel_rfl) _ _ _)) ?_
    first | refine qop_run (fun w' hw' => (sub_i64 _ (by omega))) ?_ | refine qop_run (fun w' hw' => (subI _ _ _ _)) ?_
    refine qidx1 (by kernel_rfl) (by kernel_rfl) (fun w' hw' => own11.rdS.upd0 hw') (Fr.refl _ _ _) (by first | rfl | assumption | omega | (simp; done) | (simp [vals_length, *]; done) | (simp [vals_length] at *; omega)) (by omega) (by omega) (fun x9 hx9 => ?_)
    try simp only [Int.toNat_natCast] at hx9
    refine qop_run (fun w' hw' => (fieldAt_eq (off := 1) (by kernel_rfl))) ?_
    refine qop_run (fun w' hw' => by have h_b1 := hw'.get0 h_b1; exact (ldC (by kernel_rfl) h_b1 (by rfl))) ?_
    refine qop_run (fun w' hw' => (build_eq (l := [(0, 1), (1, 1), (2, 1), (3, 1), (4, 1)]) (z := #[.int .u8 0, .bool false, .bool false, .int .u8 0, .int .u8 0]) (cs := Gs.cv ⟨x9, c.ge, false, 0, 0⟩) (by kernel_rfl) (by rfl))) ?_
    refine ext_intro (fun w11 U11 => ?_)
    replace own11 := own11.upd0 U11
    replace h_b1 := U11.get0 h_b1
    replace h_b2 := U11.get0 h_b2
    replace hF := hF.go0 U11
    refine store_intro (n := 5) (cs' := (Gs.cv ⟨x9, c.ge, false, 0, 0⟩).toArray) (by kernel_rfl) (by rfl) (by first | rfl | (simp [Value.cells, Value.oneCell', Gs.cv, Gs.fv, Gs.ie]; done)) h_b2 (by first | exact Nat.le_of_ble_eq_true rfl | (simp; done) | omega) (by rfl) (fun w12 N12 _ U12 => ?_)
    replace own11 := own11.upd1 U12 (by first | assumption | exact Own.ne_blk own11 (by assumption) (by decide) | exact Own.not_loop own11 (by assumption) (by assumption) | exact Own.not_def own11 (by assumption) | exact Own.not_loop own11 (by assumption) (lp3 _))
    replace h_b1 := U12.get1 h_b1 ne_b1_b2
    replace h_b2 := N12
    replace hF := hF.go1 U12 ge_b2
    refine ext_intro (fun w13 U13 => ?_)
    replace own11 := own11.upd0 U13
    replace h_b1 := U13.get0 h_b1
    replace h_b2 := U13.get0 h_b2
    replace hF := hF.go0 U13
    refine ldv_run (ldA (n := 5) (by kernel_rfl) h_b2 (by first | exact Nat.le_of_ble_eq_true rfl | simp | omega) (by rfl)) ?_
    first | exact ⟨congrArg (fun q => Ending.returned (.agg (Gs.cv q).toArray)) (Gs.stand_T (by assumption)), hF⟩ | exact ⟨congrArg (fun q => Ending.returned (.agg (Gs.cv q).toArray)) (Gs.stand_F (by assumption) hx9), hF⟩

/-- greenscreen/greenscreenlaw25.items$1 -/
theorem c_items_list {r c cur : Int} {A Ap : Option Addr} {n cp np cpp bx : Nat} {cs : List Gs.Cell} {l : List Int} {w : World} (h_bx : w.heap[bx]? = some (.cells #[.int .i64 r, .int .i64 c, .slice A n cp, .int .i64 cur] 27 (0, 0))) (rd1 : Rd w A (rows Gs.cv cs)) (hn : n = cs.length) (hcw : Gs.Cws cs) (rdp : Rd w Ap (vals .i64 l)) (hnp : np = l.length) (hl : ∀ i ∈ l, 0 ≤ i ∧ i < cs.length) (hlb : np ≤ 4096) :
    Calls Tryz.prog 26 #[.slice Ap np cpp, .pointer (some ⟨bx, 0, none⟩)] w fun e w' => ∃ v, e = .returned v ∧ ∃ A' c', v = .slice A' (Gs.standL cs l).length c' ∧ Own w.heap.size w' 35 5 v (rows Gs.cv (Gs.standL cs l)) ∧ Upd no w w' := by
  refine F26.calls ?_
  unfold F26
  subst hn
  subst hnp
  have lt_h_bx := lt_get h_bx
  have lt_rd1 := rd1.lt
  have lt_rdp := rdp.lt
  have hF : Upd no w w := Fr.refl _ _ _
  refine buildSlice_intro (e := 35) (m := 5) (z := #[.int .u8 0, .bool false, .bool false, .int .u8 0, .int .u8 0]) (by kernel_rfl) (by kernel_rfl) (by rfl) (by decide) (by first | (simp [fillL, splice, repL, Value.cells, Gs.cv, Gs.fv, Gs.ie]; done) | (simp [fillL, splice, repL, Value.cells, Gs.cv, Gs.fv, Gs.ie]; rfl)) (fun b1 w1 e1 h_b1 _ U1 => ?_)
  have ne_bx_b1 : bx ≠ b1 := by have := lt_get h_bx; omega
  have na_rd1_b1 := rd1.apart e1
  have na_rdp_b1 := rdp.apart e1
  have ge_b1 : w.heap.size ≤ b1 := by have := hF.size; omega
  replace rd1 := rd1.upd0 U1
  replace rdp := rdp.upd0 U1
  replace h_bx := U1.get0 h_bx
  replace hF := hF.go0 U1
  clear e1
  have own_b1 := Own.of_block (n := 0) (xs := rows Gs.cv []) (size := 5) h_b1 ge_b1 rfl (by decide)
  refine join_cut (fun g w' => ∃ (v4 : Value), (g 4 = v4) ∧ (Own w.heap.size w' 35 5 v4 (rows Gs.cv (Gs.standL cs l))) ∧ (Upd no w w')) (fun J1 hJ1 => ?_) (fun gJ1 wJ1 hI => ?_)
  · refine opv_run (len_sl (by kernel_rfl) _ _ _) ?_
    refine loop_intro (fun g w' => ∃ (k : Nat) (v4 : Value), (g 10 = .int .i64 (k : Int)) ∧ (k ≤ l.length) ∧ (g 4 = v4) ∧ (Own w.heap.size w' 35 5 v4 (rows Gs.cv (Gs.standL cs (l.take k)))) ∧ (w'.heap[bx]? = some (.cells #[.int .i64 r, .int .i64 c, .slice A cs.length cp, .int .i64 cur] 27 (0, 0))) ∧ (Rd w' A (rows Gs.cv cs)) ∧ (Rd w' Ap (vals .i64 l)) ∧ (Upd no w w')) (fun g w' => l.length - (RowKit.intOf (g 10)).toNat) ?_ (fun g2 wl2 hI => ?_)
    · exact ⟨0, _, (by first | exact g10 | rfl), Nat.zero_le _, (by first | exact g4 | rfl), (by rw [List.take_zero]; exact own_b1), h_bx, rd1, rdp, hF⟩
    · obtain ⟨k, v4, g10, hk, g4, own4, h_bx, rd1, rdp, hF⟩ := hI
      try rw [g10]
      try rw [g4]
      have hsl := Gs.standL_len cs (l.take k)
      rw [List.length_take] at hsl
      refine opv_dec (lss _ _ _ _) (fun h2 => ?_) (fun h2 => ?_)
      · refine condt ?_
        refine join_cut (fun g w' => ∃ (v4 : Value), (g 4 = v4) ∧ (Own w.heap.size w' 35 5 v4 (rows Gs.cv (Gs.standL cs (l.take (k + 1))))) ∧ (w'.heap[bx]? = some (.cells #[.int .i64 r, .int .i64 c, .slice A cs.length cp, .int .i64 cur] 27 (0, 0))) ∧ (Rd w' A (rows Gs.cv cs)) ∧ (Rd w' Ap (vals .i64 l)) ∧ (Upd no w w')) (fun J3 hJ3 => ?_) (fun gJ3 wJ3 hI => ?_)
        · refine idx_int (by kernel_rfl) (by kernel_rfl) rdp (by first | rfl | assumption | omega | (simp; done) | (simp [vals_length, *]; done) | (simp [vals_length] at *; omega)) (by omega) (by omega) (fun x3 hx3 => ?_)
          try simp only [Int.toNat_natCast] at hx3
          have hb13 := hl _ (List.mem_of_getElem? hx3)
          refine opv_run (fieldAt_eq (off := 2) (by kernel_rfl)) ?_
          refine opv_run (ldC (by kernel_rfl) h_bx (by rfl)) ?_
          refine idx_rows Gs.encC (by kernel_rfl) (by kernel_rfl) rd1 (by first | rfl | assumption | omega) (by omega) (by omega) (fun x4 hx4 => ?_)
          try simp only [Int.toNat_natCast] at hx4
          refine callF_bool (c_ref20_Empty) (fun w5 U5 h5 => ?_) (fun w5 U5 h5 => ?_)
          · replace own4 := own4.upd0 U5
            replace rd1 := rd1.upd0 U5
            replace rdp := rdp.upd0 U5
            replace h_bx := U5.get0 h_bx
            replace hF := hF.go0 U5
            try simp only [decide_eq_true_eq, decide_eq_false_iff_not] at h5
            refine opv_run (notT) ?_
            refine condf ?_
            refine hJ3 _ _ ?_
            exact ⟨_, (by first | exact g4 | rfl), (by first | (rw [← Gs.standL_F hx3 (by rw [(Gs.getC_in (by omega) hx4)]; assumption), (Gs.getC_in (by omega) hx?)]; exact own4) | (rw [← Gs.standL_T hx3 (by rw [(Gs.getC_in (by omega) hx4)]; assumption)]; exact own4)), h_bx, rd1, rdp, hF⟩
          · replace own4 := own4.upd0 U5
            replace rd1 := rd1.upd0 U5
            replace rdp := rdp.upd0 U5
            replace h_bx := U5.get0 h_bx
            replace hF := hF.go0 U5
            try simp only [decide_eq_true_eq, decide_eq_false_iff_not] at h5
            refine opv_run (notF) ?_
            refine condt ?_
            refine opv_run (fieldAt_eq (off := 2) (by kernel_rfl)) ?_
            refine opv_run (ldC (by kernel_rfl) h_bx (by rfl)) ?_
            refine idx_rows Gs.encC (by kernel_rfl) (by kernel_rfl) rd1 (by first | rfl | assumption | omega) (by omega) (by omega) (fun x6 hx6 => ?_)
            try simp only [Int.toNat_natCast] at hx6
            refine callF_val (c_law_stands (hcw.get hx6)) (fun w7 U7 => ?_)
            replace own4 := own4.upd0 U7
            replace rd1 := rd1.upd0 U7
            replace rdp := rdp.upd0 U7
            replace h_bx := U7.get0 h_bx
            replace hF := hF.go0 U7
            refine buildSlice_intro (e := 35) (m := 5) (z := #[.int .u8 0, .bool false, .bool false, .int .u8 0, .int .u8 0]) (by kernel_rfl) (by kernel_rfl) (by rfl) (by decide) (by first | (simp [fillL, splice, repL, Value.cells, Gs.cv, Gs.fv, Gs.ie]; done) | (simp [fillL, splice, repL, Value.cells, Gs.cv, Gs.fv, Gs.ie]; rfl)) (fun b8 w8 e8 h_b8 _ U8 => ?_)
            have na_own4_b8 := own4.apart e8
            have ne_bx_b8 : bx ≠ b8 := by have := lt_get h_bx; omega
            have na_rd1_b8 := rd1.apart e8
            have na_rdp_b8 := rdp.apart e8
            have ge_b8 : w.heap.size ≤ b8 := by have := hF.size; omega
            replace own4 := own4.upd0 U8
            replace rd1 := rd1.upd0 U8
            replace rdp := rdp.upd0 U8
            replace h_bx := U8.get0 h_bx
            replace hF := hF.go0 U8
            clear e8
            refine app_introA (e := 35) (size := 5) (bytes := 5) (by kernel_rfl) own4 (show Rd _ (some ⟨b8, 0, none⟩) (rows Gs.cv [(Gs.standM x6)]) from Rd.of_blockL h_b8) (by first | exact rows_len Gs.encC _ | (rw [rows_len Gs.encC]; omega)) (rows_one Gs.encC _) (by rw [rows_len Gs.encC, rows_len Gs.encC]; try simp only [List.length_nil, List.length_cons, List.length_take, List.length_append]; omega) (by have := hF.size; omega) (fun v9 w9 N9 hA9 U9 => ?_)
            have own4_o := own4
            have nc9_b8 : ∀ k, ownS v9 k → k ≠ b8 := fun k hk e => Or.elim (hA9 k hk) (fun h => na_own4_b8 k h e) (fun h => by have := lt_get h_b8; omega)
            replace own4 := N9
            replace h_bx := U9.get h_bx (fun h => by first | (have := Own.ge own4_o h; omega) | exact Own.ne_blk own4_o h_bx (by decide) _ h rfl | exact Own.not_loop own4_o h_bx (by assumption) _ h rfl | exact Own.not_def own4_o h_bx _ h rfl | simp_all)
            replace rd1 := rd1.updS U9 (lt_rd1.imp_right fun h k hk hs => by have := h k hk; have := (Own.ge own4_o hs).1; omega)
            replace rdp := rdp.updS U9 (lt_rdp.imp_right fun h k hk hs => by have := h k hk; have := (Own.ge own4_o hs).1; omega)
            replace h_b8 := U9.get h_b8 (fun h => na_own4_b8 _ h rfl)
            replace hF := hF.go U9 (fun i h hs => by first | exact hs | exact .inl hs | exact .inr hs | (have := (Own.ge own4_o hs).1; omega))
            clear own4_o
            rw [rows_append] at own4
            try simp only [List.nil_append] at own4
            obtain ⟨A9, c9, rfl⟩ := Own.open Gs.encC own4
            refine hJ3 _ _ ?_
            exact ⟨_, (by first | exact g4 | rfl), (by first | (rw [← Gs.standL_F hx3 (by rw [(Gs.getC_in (by omega) hx4)]; assumption), (Gs.getC_in (by omega) hx6)]; exact own4) | (rw [← Gs.standL_T hx3 (by rw [(Gs.getC_in (by omega) hx4)]; assumption)]; exact own4)), h_bx, rd1, rdp, hF⟩
        · obtain ⟨v4, g4, own4, h_bx, rd1, rdp, hF⟩ := hI
          try rw [g4]
          first | refine opv_run (add_i64 _ (by omega)) ?_ | refine opv_run (addI _ _ _ _) ?_
          exact ⟨⟨k + 1, _, (by first | exact g10 | rfl), by omega, (by first | exact g4 | rfl), own4, h_bx, rd1, rdp, hF⟩, cnt_lt (by first | rfl | exact g10) rfl (by omega)⟩
      · refine condf ?_
        refine hJ1 _ _ ?_
        exact ⟨_, (by first | exact g4 | rfl), (by rw [List.take_of_length_le (by omega)] at own4; exact own4), hF⟩
  · obtain ⟨v4, g4, own4, hF⟩ := hI
    try rw [g4]
    (obtain ⟨A4, c4, rfl⟩ := Own.open Gs.encC own4; exact ⟨_, rfl, A4, c4, rfl, own4, hF⟩)

set_option maxHeartbeats 2000000 in
/-- greenscreen/greenscreenlaw25.items -/
theorem c_law_items {aid1 cur1 : Int} {al1 : Bool} {A1 : Option Addr} {n1 cp1 : Nat} {l1 : List Gs.It} {r c cur : Int} {A : Option Addr} {n cp : Nat} {cs : List Gs.Cell} {w : World} (rd1 : Rd w A1 (rows Gs.ie l1)) (hn1 : n1 = l1.length) (rdc1 : Gs.Cl w l1) (rdx : Rd w A (rows Gs.cv cs)) (hn : n = cs.length) (hb : n ≤ 4096) (hcw : Gs.Cws cs) (hbd : n1 ≤ 100000) (hcb : ∀ x ∈ l1, x.cs.length ≤ 100000) :
    Calls Tryz.prog 12 #[.agg #[.int .u8 aid1, .bool al1, .int .i64 cur1, .slice A1 n1 cp1], .agg #[.int .i64 r, .int .i64 c, .slice A n cp, .int .i64 cur]] w fun e w' => e = .returned (.bool (decide (⟨aid1, al1, cur1, Gs.its l1⟩ = (⟨aid1, false, cur1, Gs.wantM cs⟩ : Gs.Inb)))) ∧ Upd no w w' := by
  refine F12.calls ?_
  unfold F12
  subst hn
  have hsl := Gs.starts_len_le cs
  have hal0 := Gs.allM_len cs
  have lt_rd1 := rd1.lt
  have lt_rdc1 := rdc1.lt
  have lt_rdx := rdx.lt
  have hF : Upd no w w := Fr.refl _ _ _
  refine box_intro (cs := #[.int .u8 aid1, .bool al1, .int .i64 cur1, .slice A1 n1 cp1]) (by rfl) (fun b1 w1 e1 h_b1 _ U1 => ?_)
  have na_rd1_b1 := rd1.apart e1
  have na_rdc1_b1 := rdc1.apart e1
  have na_rdx_b1 := rdx.apart e1
  have ge_b1 : w.heap.size ≤ b1 := by have := hF.size; omega
  replace rd1 := rd1.upd0 U1
  replace rdc1 := rdc1.upd0 U1
  replace rdx := rdx.upd0 U1
  replace hF := hF.go0 U1
  clear e1
  refine box_intro (cs := #[.int .i64 r, .int .i64 c, .slice A cs.length cp, .int .i64 cur]) (by rfl) (fun b2 w2 e2 h_b2 _ U2 => ?_)
  have na_rd1_b2 := rd1.apart e2
  have na_rdc1_b2 := rdc1.apart e2
  have na_rdx_b2 := rdx.apart e2
  have ne_b1_b2 : b1 ≠ b2 := by have := lt_get h_b1; omega
  have ge_b2 : w.heap.size ≤ b2 := by have := hF.size; omega
  replace rd1 := rd1.upd0 U2
  replace rdc1 := rdc1.upd0 U2
  replace rdx := rdx.upd0 U2
  replace h_b1 := U2.get0 h_b1
  replace hF := hF.go0 U2
  clear e2
  refine buildSlice_intro (e := 71) (m := 2) (z := #[.int .i64 0, .slice none 0 0]) (by kernel_rfl) (by kernel_rfl) (by rfl) (by decide) (by first | (simp [fillL, splice, repL, Value.cells, Gs.cv, Gs.fv, Gs.ie]; done) | (simp [fillL, splice, repL, Value.cells, Gs.cv, Gs.fv, Gs.ie]; rfl)) (fun b3 w3 e3 h_b3 _ U3 => ?_)
  have na_rd1_b3 := rd1.apart e3
  have na_rdc1_b3 := rdc1.apart e3
  have na_rdx_b3 := rdx.apart e3
  have ne_b1_b3 : b1 ≠ b3 := by have := lt_get h_b1; omega
  have ne_b2_b3 : b2 ≠ b3 := by have := lt_get h_b2; omega
  have ge_b3 : w.heap.size ≤ b3 := by have := hF.size; omega
  replace rd1 := rd1.upd0 U3
  replace rdc1 := rdc1.upd0 U3
  replace rdx := rdx.upd0 U3
  replace h_b1 := U3.get0 h_b1
  replace h_b2 := U3.get0 h_b2
  replace hF := hF.go0 U3
  clear e3
  have own_b3 := Own.of_block (n := 0) (xs := rows Gs.ie []) (size := 2) h_b3 ge_b3 rfl (by decide)
  refine opv_run (mkF _ _ _) ?_
  refine opv_run (ldA (n := 4) (cs' := #[.int .i64 r, .int .i64 c, .slice A cs.length cp, .int .i64 cur]) (by kernel_rfl) h_b2 (by first | exact Nat.le_of_ble_eq_true rfl | (simp; done) | omega) (by rfl)) ?_
  refine callF_ex (c_ref15_All rdx rfl hb hcw) (fun v4 w4 D4 => ?_)
  obtain ⟨A16, c16, rfl, rd16, gA16, U4⟩ := D4
  have na_rd16_b1 := gA16.ne (lt_get h_b1)
  have na_rd16_b2 := gA16.ne (lt_get h_b2)
  have na_rd16_own_b3 : _ ∨ ∀ k, _ → ¬ ownS _ k := gA16.imp_right fun h k hk hs => by have := h k hk; have := (Own.ge own_b3 hs).2; omega
  replace rd1 := rd1.upd0 U4
  replace rdc1 := rdc1.upd0 U4
  replace rdx := rdx.upd0 U4
  replace own_b3 := own_b3.upd0 U4
  replace h_b1 := U4.get0 h_b1
  replace h_b2 := U4.get0 h_b2
  replace hF := hF.go0 U4
  refine join_cut (fun g w' => ∃ (l5 : List Gs.It) (A5 : Option Addr) (c5 : Nat), (g 5 = .slice A5 l5.length c5) ∧ (Gs.its l5 = Gs.wantF cs (Gs.allM cs).length) ∧ (l5.length ≤ 4096) ∧ (Own w.heap.size w' 71 2 (.slice A5 l5.length c5) (rows Gs.ie l5)) ∧ (Gs.Cl w' l5) ∧ (l5 = [] ∨ ∀ k, Gs.clB l5 k → ¬ ownS (.slice A5 l5.length c5) k) ∧ (w'.heap[b1]? = some (.cells #[.int .u8 aid1, .bool al1, .int .i64 cur1, .slice A1 n1 cp1] 40 (0, 0))) ∧ (w'.heap[b2]? = some (.cells #[.int .i64 r, .int .i64 c, .slice A cs.length cp, .int .i64 cur] 27 (0, 0))) ∧ (Rd w' A1 (rows Gs.ie l1)) ∧ (Gs.Cl w' l1) ∧ (Rd w' A (rows Gs.cv cs)) ∧ (Upd no w w')) (fun J1 hJ1 => ?_) (fun gJ1 wJ1 hI => ?_)
  · refine opv_run (len_sl (by kernel_rfl) _ _ _) ?_
    refine loop_intro (fun g w' => ∃ (k : Nat) (l5 : List Gs.It) (A5 : Option Addr) (c5 : Nat), (g 19 = .int .i64 (k : Int)) ∧ (k ≤ (Gs.allM cs).length) ∧ (g 5 = .slice A5 l5.length c5) ∧ (Gs.its l5 = Gs.wantF cs k) ∧ (l5.length ≤ k) ∧ (Own w.heap.size w' 71 2 (.slice A5 l5.length c5) (rows Gs.ie l5)) ∧ (Gs.Cl w' l5) ∧ (l5 = [] ∨ ∀ k, Gs.clB l5 k → ¬ ownS (.slice A5 l5.length c5) k) ∧ (Rd w' A16 (rows Gs.fv (Gs.allM cs))) ∧ (rows Gs.fv (Gs.allM cs) = [] ∨ ∀ k, blkOf A16 k → ¬ ownS (.slice A5 l5.length c5) k) ∧ (w'.heap[b1]? = some (.cells #[.int .u8 aid1, .bool al1, .int .i64 cur1, .slice A1 n1 cp1] 40 (0, 0))) ∧ (w'.heap[b2]? = some (.cells #[.int .i64 r, .int .i64 c, .slice A cs.length cp, .int .i64 cur] 27 (0, 0))) ∧ (Rd w' A1 (rows Gs.ie l1)) ∧ (Gs.Cl w' l1) ∧ (Rd w' A (rows Gs.cv cs)) ∧ (Upd no w w')) (fun g w' => (Gs.allM cs).length - (RowKit.intOf (g 19)).toNat) ?_ (fun g2 wl2 hI => ?_)
    · exact ⟨0, [], _, _, (by first | exact g19 | rfl), Nat.zero_le _, (by first | exact g5 | rfl), rfl, (by simp), own_b3, (Gs.Cl.nil _), (.inl rfl), rd16, (by assumption), h_b1, h_b2, rd1, rdc1, rdx, hF⟩
    · obtain ⟨k, l5, A5, c5, g19, hk, g5, hw5, hal, own5, rdc5, hcs5, rd16, hs16, h_b1, h_b2, rd1, rdc1, rdx, hF⟩ := hI
      try rw [g19]
      try rw [g5]
      refine opv_dec (lss _ _ _ _) (fun h5 => ?_) (fun h5 => ?_)
      · refine condt ?_
        refine join_cut (fun g w' => ∃ (l5 : List Gs.It) (A5 : Option Addr) (c5 : Nat), (g 5 = .slice A5 l5.length c5) ∧ (Gs.its l5 = Gs.wantF cs (k + 1)) ∧ (l5.length ≤ k + 1) ∧ (Own w.heap.size w' 71 2 (.slice A5 l5.length c5) (rows Gs.ie l5)) ∧ (Gs.Cl w' l5) ∧ (l5 = [] ∨ ∀ k, Gs.clB l5 k → ¬ ownS (.slice A5 l5.length c5) k) ∧ (Rd w' A16 (rows Gs.fv (Gs.allM cs))) ∧ (rows Gs.fv (Gs.allM cs) = [] ∨ ∀ k, blkOf A16 k → ¬ ownS (.slice A5 l5.length c5) k) ∧ (w'.heap[b1]? = some (.cells #[.int .u8 aid1, .bool al1, .int .i64 cur1, .slice A1 n1 cp1] 40 (0, 0))) ∧ (w'.heap[b2]? = some (.cells #[.int .i64 r, .int .i64 c, .slice A cs.length cp, .int .i64 cur] 27 (0, 0))) ∧ (Rd w' A1 (rows Gs.ie l1)) ∧ (Gs.Cl w' l1) ∧ (Rd w' A (rows Gs.cv cs)) ∧ (Upd no w w')) (fun J3 hJ3 => ?_) (fun gJ3 wJ3 hI => ?_)
        · refine idx_rows Gs.encF (by kernel_rfl) (by kernel_rfl) rd16 (by first | rfl | assumption | omega) (by omega) (by omega) (fun x6 hx6 => ?_)
          try simp only [Int.toNat_natCast] at hx6
          have hxb := (Gs.all_in hx6).1
          have hpl := Gs.places_le cs.length x6
          have hxa := Gs.allM_a hcw hx6
          refine alloc_intro (cs := (Gs.fv Gs.zf).toArray) (by kernel_rfl) (fun b7 w7 e7 h_b7 _ U7 => ?_)
          have na_own5_b7 := own5.apart e7
          have na_rdc5_b7 := rdc5.apart e7
          have na_rd16_b7 := rd16.apart e7
          have ne_b1_b7 : b1 ≠ b7 := by have := lt_get h_b1; omega
          have ne_b2_b7 : b2 ≠ b7 := by have := lt_get h_b2; omega
          have na_rd1_b7 := rd1.apart e7
          have na_rdc1_b7 := rdc1.apart e7
          have na_rdx_b7 := rdx.apart e7
          have ge_b7 : w.heap.size ≤ b7 := by have := hF.size; omega
          replace own5 := own5.upd0 U7
          replace rdc5 := rdc5.upd0 U7
          replace rd16 := rd16.upd0 U7
          replace rd1 := rd1.upd0 U7
          replace rdc1 := rdc1.upd0 U7
          replace rdx := rdx.upd0 U7
          replace h_b1 := U7.get0 h_b1
          replace h_b2 := U7.get0 h_b2
          replace hF := hF.go0 U7
          clear e7
          refine store_intro (n := 3) (cs' := (Gs.fv x6).toArray) (by kernel_rfl) (by rfl) (by first | rfl | (simp [Value.cells, Value.oneCell', Gs.cv, Gs.fv, Gs.ie]; done)) h_b7 (by first | exact Nat.le_of_ble_eq_true rfl | (simp; done) | omega) (by rfl) (fun w8 N8 _ U8 => ?_)
          replace own5 := own5.upd1 U8 na_own5_b7
          replace rdc5 := rdc5.upd1 U8 na_rdc5_b7
          replace rd16 := rd16.upd1 U8 na_rd16_b7
          replace rd1 := rd1.upd1 U8 na_rd1_b7
          replace rdc1 := rdc1.upd1 U8 na_rdc1_b7
          replace rdx := rdx.upd1 U8 na_rdx_b7
          replace h_b1 := U8.get1 h_b1 ne_b1_b7
          replace h_b2 := U8.get1 h_b2 ne_b2_b7
          replace h_b7 := N8
          replace hF := hF.go1 U8 ge_b7
          refine opv_run (fieldAt_eq (off := 2) (by kernel_rfl)) ?_
          refine opv_run (ldC (by kernel_rfl) h_b7 (by rfl)) ?_
          refine opv_run (and8_1 _ (by omega)) ?_
          refine opv_dec (eqI _ _ _ _ _) (fun h9 => ?_) (fun h9 => ?_)
          · refine condt ?_
            refine drawn_S (S := ownS (.slice A5 l5.length c5)) (fun w10 U10 => ?_)
            replace own5 := own5.upd0 U10
            replace rdc5 := rdc5.upd0 U10
            replace rd16 := rd16.upd0 U10
            replace rd1 := rd1.upd0 U10
            replace rdc1 := rdc1.upd0 U10
            replace rdx := rdx.upd0 U10
            replace h_b1 := U10.get0 h_b1
            replace h_b2 := U10.get0 h_b2
            replace h_b7 := U10.get0 h_b7
            replace hF := hF.go0 U10
            refine qop_run (fun w' hw' => (fieldAt_eq (off := 0) (by kernel_rfl))) ?_
            refine qop_run (fun w' hw' => by have h_b7 := hw'.get h_b7 (fun h => by first | exact Own.ne_blk own5 h_b7 (by decide) _ h rfl | (have := Own.ge own5 h; omega)); exact (ldC (by kernel_rfl) h_b7 (by rfl))) ?_
            first | refine qop_run (fun w' hw' => (add_i64 _ (by omega))) ?_ | refine qop_run (fun w' hw' => (addI _ _ _ _)) ?_
            refine qop_run (fun w' hw' => (fieldAt_eq (off := 2) (by kernel_rfl))) ?_
            refine qop_run (fun w' hw' => by have h_b2 := hw'.get h_b2 (fun h => by first | exact Own.ne_blk own5 h_b2 (by decide) _ h rfl | (have := Own.ge own5 h; omega)); exact (ldC (by kernel_rfl) h_b2 (by rfl))) ?_
            refine qop_run (fun w' hw' => (len_sl (by kernel_rfl) _ _ _)) ?_
            refine qop_run (fun w' hw' => (remN _ (by omega) (by omega) (by omega))) ?_
            refine qop_run (fun w' hw' => by have h_b2 := hw'.get h_b2 (fun h => by first | exact Own.ne_blk own5 h_b2 (by decide) _ h rfl | (have := Own.ge own5 h; omega)); exact (ldA (n := 4) (cs' := #[.int .i64 r, .int .i64 c, .slice A cs.length cp, .int .i64 cur]) (by kernel_rfl) h_b2 (by first | exact Nat.le_of_ble_eq_true rfl | (simp; done) | omega) (by rfl))) ?_
            refine qop_run (fun w' hw' => by have h_b7 := hw'.get h_b7 (fun h => by first | exact Own.ne_blk own5 h_b7 (by decide) _ h rfl | (have := Own.ge own5 h; omega)); exact (ldA (n := 3) (cs' := (Gs.fv x6).toArray) (by kernel_rfl) h_b7 (by first | exact Nat.le_of_ble_eq_true rfl | (simp; done) | omega) (by rfl))) ?_
            refine ext_intro (fun w11 U11 => ?_)
            replace own5 := own5.upd0 U11
            replace rdc5 := rdc5.upd0 U11
            replace rd16 := rd16.upd0 U11
            replace rd1 := rd1.upd0 U11
            replace rdc1 := rdc1.upd0 U11
            replace rdx := rdx.upd0 U11
            replace h_b1 := U11.get0 h_b1
            replace h_b2 := U11.get0 h_b2
            replace h_b7 := U11.get0 h_b7
            replace hF := hF.go0 U11
            refine lop_i ?_
            refine callF_ex (c_ref15_Places rdx rfl hb (f := x6)) (fun v12 w12 D12 => ?_)
            obtain ⟨A38, c38, rfl, rd38, gA38, lc38, U12⟩ := D12
            have na_rd38_own5 : _ ∨ ∀ k, _ → ¬ ownS _ k := gA38.imp_right fun h k hk hs => by have := h k hk; have := (Own.ge own5 hs).2; omega
            have na_rd38_b1 := gA38.ne (lt_get h_b1)
            have na_rd38_b2 := gA38.ne (lt_get h_b2)
            have na_rd38_b7 := gA38.ne (lt_get h_b7)
            replace own5 := own5.upd0 U12
            replace rdc5 := rdc5.upd0 U12
            replace rd16 := rd16.upd0 U12
            replace rd1 := rd1.upd0 U12
            replace rdc1 := rdc1.upd0 U12
            replace rdx := rdx.upd0 U12
            replace h_b1 := U12.get0 h_b1
            replace h_b2 := U12.get0 h_b2
            replace h_b7 := U12.get0 h_b7
            replace hF := hF.go0 U12
            refine ⟨U12.any, ?_⟩
            refine ext_intro (fun w13 U13 => ?_)
            replace own5 := own5.upd0 U13
            replace rdc5 := rdc5.upd0 U13
            replace rd16 := rd16.upd0 U13
            replace rd1 := rd1.upd0 U13
            replace rdc1 := rdc1.upd0 U13
            replace rdx := rdx.upd0 U13
            replace rd38 := rd38.upd0 U13
            replace h_b1 := U13.get0 h_b1
            replace h_b2 := U13.get0 h_b2
            replace h_b7 := U13.get0 h_b7
            replace hF := hF.go0 U13
            refine lop_i ?_
            refine callY_ofc (by kernel_rfl) (by first | rfl | simp) (callF_ex (c_items_list h_b2 rdx rfl hcw rd38 rfl (fun i hi => Gs.places_mem hi) (by omega)) (fun v14 w14 D14 => ?_))
            obtain ⟨A39, c39, rfl, own39, U14⟩ := D14
            have nx14_own5_own39 : ∀ k, ownS _ k → ¬ ownS _ k := fun k hk hs => by have := (Own.ge own5 hk).2; have := (Own.ge own39 hs).1; omega
            have nx14_rdc5_own39 : _ ∨ ∀ k, _ → ¬ ownS _ k := (rdc5.lt).imp_right fun h k hk hs => by have := h k hk; have := (Own.ge own39 hs).1; omega
            have nx14_rd16_own39 : _ ∨ ∀ k, _ → ¬ ownS _ k := (rd16.lt).imp_right fun h k hk hs => by have := h k hk; have := (Own.ge own39 hs).1; omega
            have nx14_h_b1_own39 : ¬ ownS _ b1 := fun h => by have := (Own.ge own39 h).1; have := lt_get h_b1; omega
            have nx14_h_b2_own39 : ¬ ownS _ b2 := fun h => by have := (Own.ge own39 h).1; have := lt_get h_b2; omega
            have nx14_rd1_own39 : _ ∨ ∀ k, _ → ¬ ownS _ k := (rd1.lt).imp_right fun h k hk hs => by have := h k hk; have := (Own.ge own39 hs).1; omega
            have nx14_rdc1_own39 : _ ∨ ∀ k, _ → ¬ ownS _ k := (rdc1.lt).imp_right fun h k hk hs => by have := h k hk; have := (Own.ge own39 hs).1; omega
            have nx14_rdx_own39 : _ ∨ ∀ k, _ → ¬ ownS _ k := (rdx.lt).imp_right fun h k hk hs => by have := h k hk; have := (Own.ge own39 hs).1; omega
            have nx14_h_b7_own39 : ¬ ownS _ b7 := fun h => by have := (Own.ge own39 h).1; have := lt_get h_b7; omega
            have nx14_rd38_own39 : _ ∨ ∀ k, _ → ¬ ownS _ k := (rd38.lt).imp_right fun h k hk hs => by have := h k hk; have := (Own.ge own39 hs).1; omega
            replace own39 := own39.mono (B' := w.heap.size) hF.size
            replace own5 := own5.upd0 U14
            replace rdc5 := rdc5.upd0 U14
            replace rd16 := rd16.upd0 U14
            replace rd1 := rd1.upd0 U14
            replace rdc1 := rdc1.upd0 U14
            replace rdx := rdx.upd0 U14
            replace rd38 := rd38.upd0 U14
            replace h_b1 := U14.get0 h_b1
            replace h_b2 := U14.get0 h_b2
            replace h_b7 := U14.get0 h_b7
            replace hF := hF.go0 U14
            replace rdc5 := rdc5.snoc (x := Gs.It.mk (((x6).s + 1) % (cs.length : Int)) A39 c39 (Gs.standL cs (Gs.placesL cs.length x6))) own39.rdS
            replace hcs5 := Gs.clB_own (y := Gs.It.mk (((x6).s + 1) % (cs.length : Int)) A39 c39 (Gs.standL cs (Gs.placesL cs.length x6))) hcs5 nx14_own5_own39
            refine ⟨U14.any, ?_⟩
            refine qop_run (fun w' hw' => (build_eq (l := [(0, 1), (1, 1)]) (z := #[.int .i64 0, .slice none 0 0]) (cs := Gs.ie (Gs.It.mk (((x6).s + 1) % (cs.length : Int)) A39 c39 (Gs.standL cs (Gs.placesL cs.length x6)))) (by kernel_rfl) (by rfl))) ?_
            refine ext_intro (fun w16 U16 => ?_)
            replace own5 := own5.upd0 U16
            replace rdc5 := rdc5.upd0 U16
            replace rd16 := rd16.upd0 U16
            replace rd1 := rd1.upd0 U16
            replace rdc1 := rdc1.upd0 U16
            replace rdx := rdx.upd0 U16
            replace rd38 := rd38.upd0 U16
            replace own39 := own39.upd0 U16
            replace h_b1 := U16.get0 h_b1
            replace h_b2 := U16.get0 h_b2
            replace h_b7 := U16.get0 h_b7
            replace hF := hF.go0 U16
            refine lop_i ?_
            refine buildSlice_intro (e := 71) (m := 2) (z := #[.int .i64 0, .slice none 0 0]) (by kernel_rfl) (by kernel_rfl) (by rfl) (by decide) (by first | (simp [fillL, splice, repL, Value.cells, Gs.cv, Gs.fv, Gs.ie]; done) | (simp [fillL, splice, repL, Value.cells, Gs.cv, Gs.fv, Gs.ie]; rfl)) (fun b17 w17 e17 h_b17 _ U17 => ?_)
            have na_own5_b17 := own5.apart e17
            have na_rdc5_b17 := rdc5.apart e17
            have na_rd16_b17 := rd16.apart e17
            have ne_b1_b17 : b1 ≠ b17 := by have := lt_get h_b1; omega
            have ne_b2_b17 : b2 ≠ b17 := by have := lt_get h_b2; omega
            have na_rd1_b17 := rd1.apart e17
            have na_rdc1_b17 := rdc1.apart e17
            have na_rdx_b17 := rdx.apart e17
            have ne_b7_b17 : b7 ≠ b17 := by have := lt_get h_b7; omega
            have na_rd38_b17 := rd38.apart e17
            have na_own39_b17 := own39.apart e17
            have ge_b17 : w.heap.size ≤ b17 := by have := hF.size; omega
            replace own5 := own5.upd0 U17
            replace rdc5 := rdc5.upd0 U17
            replace rd16 := rd16.upd0 U17
            replace rd1 := rd1.upd0 U17
            replace rdc1 := rdc1.upd0 U17
            replace rdx := rdx.upd0 U17
            replace rd38 := rd38.upd0 U17
            replace own39 := own39.upd0 U17
            replace h_b1 := U17.get0 h_b1
            replace h_b2 := U17.get0 h_b2
            replace h_b7 := U17.get0 h_b7
            replace hF := hF.go0 U17
            clear e17
            refine ⟨U17.any, ?_⟩
            refine ext_intro (fun w18 U18 => ?_)
            replace own5 := own5.upd0 U18
            replace rdc5 := rdc5.upd0 U18
            replace rd16 := rd16.upd0 U18
            replace rd1 := rd1.upd0 U18
            replace rdc1 := rdc1.upd0 U18
            replace rdx := rdx.upd0 U18
            replace rd38 := rd38.upd0 U18
            replace own39 := own39.upd0 U18
            replace h_b1 := U18.get0 h_b1
            replace h_b2 := U18.get0 h_b2
            replace h_b7 := U18.get0 h_b7
            replace h_b17 := U18.get0 h_b17
            replace hF := hF.go0 U18
            refine lop_i ?_
            refine app_introA (e := 71) (size := 2) (bytes := 32) (by kernel_rfl) own5 (show Rd _ (some ⟨b17, 0, none⟩) (rows Gs.ie [(Gs.It.mk (((x6).s + 1) % (cs.length : Int)) A39 c39 (Gs.standL cs (Gs.placesL cs.length x6)))]) from Rd.of_blockL h_b17) (by first | exact rows_len Gs.encIt _ | (rw [rows_len Gs.encIt]; omega)) (rows_one Gs.encIt _) (by rw [rows_len Gs.encIt, rows_len Gs.encIt]; try simp only [List.length_nil, List.length_cons, List.length_take, List.length_append]; omega) (by have := hF.size; omega) (fun v19 w19 N19 hA19 U19 => ?_)
            have own5_o := own5
            have nb19_rdc5 := Gs.ap_rdc (S' := w18) hcs5 rdc5 hA19
            have nb19_rd16 := ap_rd (S' := w18) hs16 rd16 hA19
            have nb19_rd38 := ap_rd (S' := w18) na_rd38_own5 rd38 hA19
            have nb19_own39 := ap_own (S' := w18) (fun k hk hs => nx14_own5_own39 k hs hk) own39 hA19
            have nc19_b7 : ∀ k, ownS v19 k → k ≠ b7 := fun k hk e => Or.elim (hA19 k hk) (fun h => na_own5_b7 k h e) (fun h => by have := lt_get h_b7; omega)
            have nc19_b17 : ∀ k, ownS v19 k → k ≠ b17 := fun k hk e => Or.elim (hA19 k hk) (fun h => na_own5_b17 k h e) (fun h => by have := lt_get h_b17; omega)
            replace own5 := N19
            replace rdc5 := rdc5.updS U19 hcs5
            replace rd16 := rd16.updS U19 hs16
            replace h_b1 := U19.get h_b1 (fun h => by first | (have := Own.ge own5_o h; omega) | exact Own.ne_blk own5_o h_b1 (by decide) _ h rfl | exact Own.not_loop own5_o h_b1 (by assumption) _ h rfl | exact Own.not_def own5_o h_b1 _ h rfl | simp_all)
            replace h_b2 := U19.get h_b2 (fun h => by first | (have := Own.ge own5_o h; omega) | exact Own.ne_blk own5_o h_b2 (by decide) _ h rfl | exact Own.not_loop own5_o h_b2 (by assumption) _ h rfl | exact Own.not_def own5_o h_b2 _ h rfl | simp_all)
            replace rd1 := rd1.updS U19 (lt_rd1.imp_right fun h k hk hs => by have := h k hk; have := (Own.ge own5_o hs).1; omega)
            replace rdc1 := rdc1.updS U19 (lt_rdc1.imp_right fun h k hk hs => by have := h k hk; have := (Own.ge own5_o hs).1; omega)
            replace rdx := rdx.updS U19 (lt_rdx.imp_right fun h k hk hs => by have := h k hk; have := (Own.ge own5_o hs).1; omega)
            replace h_b7 := U19.get h_b7 (fun h => na_own5_b7 _ h rfl)
            replace rd38 := rd38.updS U19 na_rd38_own5
            replace own39 := own39.updS U19 (fun k hk hs => nx14_own5_own39 k hs hk)
            replace h_b17 := U19.get h_b17 (fun h => na_own5_b17 _ h rfl)
            replace hF := hF.go U19 (fun i h hs => by first | exact hs | exact .inl hs | exact .inr hs | (have := (Own.ge own5_o hs).1; omega))
            clear own5_o
            rw [rows_append] at own5
            try simp only [List.nil_append] at own5
            obtain ⟨A19, c19, rfl⟩ := Own.open Gs.encIt own5
            refine ⟨U19, ?_⟩
            refine ext_intro (fun w20 U20 => ?_)
            replace own5 := own5.upd0 U20
            replace rdc5 := rdc5.upd0 U20
            replace rd16 := rd16.upd0 U20
            replace rd1 := rd1.upd0 U20
            replace rdc1 := rdc1.upd0 U20
            replace rdx := rdx.upd0 U20
            replace rd38 := rd38.upd0 U20
            replace own39 := own39.upd0 U20
            replace h_b1 := U20.get0 h_b1
            replace h_b2 := U20.get0 h_b2
            replace h_b7 := U20.get0 h_b7
            replace h_b17 := U20.get0 h_b17
            replace hF := hF.go0 U20
            refine hJ3 _ _ ?_
            exact ⟨_, _, _, (by first | exact g5 | rfl), (by first | (rw [Gs.its_snoc, hw5]; exact Gs.wantF_T hx6 (by assumption)) | (rw [hw5]; exact Gs.wantF_F hx6 (by assumption))), (by first | omega | (simp only [List.length_append, List.length_cons, List.length_nil]; omega)), own5, rdc5, (by assumption), rd16, (by assumption), h_b1, h_b2, rd1, rdc1, rdx, hF⟩
          · refine condf ?_
            refine hJ3 _ _ ?_
            exact ⟨_, _, _, (by first | exact g5 | rfl), (by first | (rw [Gs.its_snoc, hw5]; exact Gs.wantF_T hx6 (by assumption)) | (rw [hw5]; exact Gs.wantF_F hx6 (by assumption))), (by first | omega | (simp only [List.length_append, List.length_cons, List.length_nil]; omega)), own5, rdc5, (by assumption), rd16, (by assumption), h_b1, h_b2, rd1, rdc1, rdx, hF⟩
        · obtain ⟨l5, A5, c5, g5, hw5, hal, own5, rdc5, hcs5, rd16, hs16, h_b1, h_b2, rd1, rdc1, rdx, hF⟩ := hI
          try rw [g5]
          first | refine opv_run (add_i64 _ (by omega)) ?_ | refine opv_run (addI _ _ _ _) ?_
          exact ⟨⟨k + 1, _, _, _, (by first | exact g19 | rfl), by omega, (by first | exact g5 | rfl), hw5, hal, own5, rdc5, hcs5, rd16, hs16, h_b1, h_b2, rd1, rdc1, rdx, hF⟩, cnt_lt (by first | rfl | exact g19) rfl (by omega)⟩
      · refine condf ?_
        refine hJ1 _ _ ?_
        exact ⟨_, _, _, (by first | exact g5 | rfl), (by rw [show (Gs.allM cs).length = k by omega]; exact hw5), (by omega), own5, rdc5, hcs5, h_b1, h_b2, rd1, rdc1, rdx, hF⟩
  · obtain ⟨l5, A5, c5, g5, hw5, hal, own5, rdc5, hcs5, h_b1, h_b2, rd1, rdc1, rdx, hF⟩ := hI
    try rw [g5]
    refine join_cut (fun g w' => ∃ (l5 : List Gs.It) (A5 : Option Addr) (c5 : Nat), (g 5 = .slice A5 l5.length c5) ∧ (Gs.its l5 = Gs.wantM cs) ∧ (Own w.heap.size w' 71 2 (.slice A5 l5.length c5) (rows Gs.ie l5)) ∧ (Gs.Cl w' l5) ∧ (w'.heap[b1]? = some (.cells #[.int .u8 aid1, .bool al1, .int .i64 cur1, .slice A1 n1 cp1] 40 (0, 0))) ∧ (Rd w' A1 (rows Gs.ie l1)) ∧ (Gs.Cl w' l1) ∧ (Upd no w w')) (fun J4 hJ4 => ?_) (fun gJ4 wJ4 hI => ?_)
    · refine opv_run (len_sl (by kernel_rfl) _ _ _) ?_
      refine opv_dec (eqI _ _ _ _ _) (fun h21 => ?_) (fun h21 => ?_)
      · refine condt ?_
        refine buildSlice_intro (e := 3) (m := 1) (z := #[.int .i64 0]) (by kernel_rfl) (by kernel_rfl) (by rfl) (by decide) (by first | (simp [fillL, splice, repL, Value.cells, Gs.cv, Gs.fv, Gs.ie]; done) | (simp [fillL, splice, repL, Value.cells, Gs.cv, Gs.fv, Gs.ie]; rfl)) (fun b22 w22 e22 h_b22 _ U22 => ?_)
        have na_own5_b22 := own5.apart e22
        have na_rdc5_b22 := rdc5.apart e22
        have ne_b1_b22 : b1 ≠ b22 := by have := lt_get h_b1; omega
        have ne_b2_b22 : b2 ≠ b22 := by have := lt_get h_b2; omega
        have na_rd1_b22 := rd1.apart e22
        have na_rdc1_b22 := rdc1.apart e22
        have na_rdx_b22 := rdx.apart e22
        have ge_b22 : w.heap.size ≤ b22 := by have := hF.size; omega
        replace own5 := own5.upd0 U22
        replace rdc5 := rdc5.upd0 U22
        replace rd1 := rd1.upd0 U22
        replace rdc1 := rdc1.upd0 U22
        replace rdx := rdx.upd0 U22
        replace h_b1 := U22.get0 h_b1
        replace h_b2 := U22.get0 h_b2
        replace hF := hF.go0 U22
        clear e22
        refine join_cut (fun g w' => ∃ (v10 : Value), (g 10 = v10) ∧ (Own w.heap.size w' 3 1 v10 (vals .i64 (Gs.placesA cs))) ∧ (Own w.heap.size w' 71 2 (.slice A5 l5.length c5) (rows Gs.ie l5)) ∧ (Gs.Cl w' l5) ∧ (l5 = [] ∨ ∀ k, Gs.clB l5 k → ¬ ownS (.slice A5 l5.length c5) k) ∧ (∀ k, ownS v10 k → ¬ ownS (.slice A5 l5.length c5) k) ∧ (w'.heap[b1]? = some (.cells #[.int .u8 aid1, .bool al1, .int .i64 cur1, .slice A1 n1 cp1] 40 (0, 0))) ∧ (w'.heap[b2]? = some (.cells #[.int .i64 r, .int .i64 c, .slice A cs.length cp, .int .i64 cur] 27 (0, 0))) ∧ (Rd w' A1 (rows Gs.ie l1)) ∧ (Gs.Cl w' l1) ∧ (Rd w' A (rows Gs.cv cs)) ∧ (Upd no w w')) (fun J5 hJ5 => ?_) (fun gJ5 wJ5 hI => ?_)
        · refine opv_run (fieldAt_eq (off := 2) (by kernel_rfl)) ?_
          refine opv_run (ldC (by kernel_rfl) h_b2 (by rfl)) ?_
          refine opv_run (len_sl (by kernel_rfl) _ _ _) ?_
          refine loop_intro (fun g w' => ∃ (k : Nat) (v10 : Value), (g 51 = .int .i64 (k : Int)) ∧ (k ≤ cs.length) ∧ (g 10 = v10) ∧ (Own w.heap.size w' 3 1 v10 (vals .i64 ((Gs.placesA cs).take k))) ∧ (Own w.heap.size w' 71 2 (.slice A5 l5.length c5) (rows Gs.ie l5)) ∧ (Gs.Cl w' l5) ∧ (l5 = [] ∨ ∀ k, Gs.clB l5 k → ¬ ownS (.slice A5 l5.length c5) k) ∧ (∀ k, ownS (.slice A5 l5.length c5) k → ¬ ownS v10 k) ∧ (l5 = [] ∨ ∀ k, Gs.clB l5 k → ¬ ownS v10 k) ∧ (w'.heap[b1]? = some (.cells #[.int .u8 aid1, .bool al1, .int .i64 cur1, .slice A1 n1 cp1] 40 (0, 0))) ∧ (w'.heap[b2]? = some (.cells #[.int .i64 r, .int .i64 c, .slice A cs.length cp, .int .i64 cur] 27 (0, 0))) ∧ (Rd w' A1 (rows Gs.ie l1)) ∧ (Gs.Cl w' l1) ∧ (Rd w' A (rows Gs.cv cs)) ∧ (Upd no w w')) (fun g w' => cs.length - (RowKit.intOf (g 51)).toNat) ?_ (fun g6 wl6 hI => ?_)
          · exact ⟨0, _, (by first | exact g51 | rfl), Nat.zero_le _, (by first | exact g10 | rfl), (Own.of_block (n := 0) h_b22 ge_b22 rfl (by decide)), own5, rdc5, hcs5, (fun k hk hs => by cases hs; exact na_own5_b22 _ hk rfl), (na_rdc5_b22.imp_right fun h k hk hs => by cases hs; exact h _ hk rfl), h_b1, h_b2, rd1, rdc1, rdx, hF⟩
          · obtain ⟨k, v10, g51, hk, g10, own10, own5, rdc5, hcs5, ho10, hc10, h_b1, h_b2, rd1, rdc1, rdx, hF⟩ := hI
            try rw [g51]
            try rw [g10]
            have hpla := Gs.placesA_len cs
            refine opv_dec (lss _ _ _ _) (fun h23 => ?_) (fun h23 => ?_)
            · refine condt ?_
              refine buildSlice_intro (e := 3) (m := 1) (z := #[.int .i64 0]) (by kernel_rfl) (by kernel_rfl) (by rfl) (by decide) (by first | (simp [fillL, splice, repL, Value.cells, Gs.cv, Gs.fv, Gs.ie]; done) | (simp [fillL, splice, repL, Value.cells, Gs.cv, Gs.fv, Gs.ie]; rfl)) (fun b24 w24 e24 h_b24 _ U24 => ?_)
              have na_own10_b24 := own10.apart e24
              have na_own5_b24 := own5.apart e24
              have na_rdc5_b24 := rdc5.apart e24
              have ne_b1_b24 : b1 ≠ b24 := by have := lt_get h_b1; omega
              have ne_b2_b24 : b2 ≠ b24 := by have := lt_get h_b2; omega
              have na_rd1_b24 := rd1.apart e24
              have na_rdc1_b24 := rdc1.apart e24
              have na_rdx_b24 := rdx.apart e24
              have ge_b24 : w.heap.size ≤ b24 := by have := hF.size; omega
              replace own10 := own10.upd0 U24
              replace own5 := own5.upd0 U24
              replace rdc5 := rdc5.upd0 U24
              replace rd1 := rd1.upd0 U24
              replace rdc1 := rdc1.upd0 U24
              replace rdx := rdx.upd0 U24
              replace h_b1 := U24.get0 h_b1
              replace h_b2 := U24.get0 h_b2
              replace hF := hF.go0 U24
              clear e24
              refine app_introA (e := 3) (size := 1) (bytes := 8) (by kernel_rfl) own10 (Rd.of_blockL h_b24) rfl (by first | (simp [Value.oneCell']; done) | (intro u hu; simp only [List.mem_singleton] at hu; subst hu; rfl) | (simp; intros; subst_vars; rfl)) (by simp only [vals_length, List.length_take, List.length_cons, List.length_nil, List.length_append, List.length_map, List.length_range]; omega) (by have := hF.size; omega) (fun v25 w25 N25 hA25 U25 => ?_)
              have own10_o := own10
              have nb25_own5 := ap_own (S' := w24) ho10 own5 hA25
              have nb25_rdc5 := Gs.ap_rdc (S' := w24) hc10 rdc5 hA25
              have nc25_b24 : ∀ k, ownS v25 k → k ≠ b24 := fun k hk e => Or.elim (hA25 k hk) (fun h => na_own10_b24 k h e) (fun h => by have := lt_get h_b24; omega)
              replace own10 := N25
              replace own5 := own5.updS U25 ho10
              replace rdc5 := rdc5.updS U25 hc10
              replace h_b1 := U25.get h_b1 (fun h => by first | (have := Own.ge own10_o h; omega) | exact Own.ne_blk own10_o h_b1 (by decide) _ h rfl | exact Own.not_loop own10_o h_b1 (by assumption) _ h rfl | exact Own.not_def own10_o h_b1 _ h rfl | simp_all)
              replace h_b2 := U25.get h_b2 (fun h => by first | (have := Own.ge own10_o h; omega) | exact Own.ne_blk own10_o h_b2 (by decide) _ h rfl | exact Own.not_loop own10_o h_b2 (by assumption) _ h rfl | exact Own.not_def own10_o h_b2 _ h rfl | simp_all)
              replace rd1 := rd1.updS U25 (lt_rd1.imp_right fun h k hk hs => by have := h k hk; have := (Own.ge own10_o hs).1; omega)
              replace rdc1 := rdc1.updS U25 (lt_rdc1.imp_right fun h k hk hs => by have := h k hk; have := (Own.ge own10_o hs).1; omega)
              replace rdx := rdx.updS U25 (lt_rdx.imp_right fun h k hk hs => by have := h k hk; have := (Own.ge own10_o hs).1; omega)
              replace h_b24 := U25.get h_b24 (fun h => na_own10_b24 _ h rfl)
              replace hF := hF.go U25 (fun i h hs => by first | exact hs | exact .inl hs | exact .inr hs | (have := (Own.ge own10_o hs).1; omega))
              clear own10_o
              first | refine opv_run (add_i64 _ (by omega)) ?_ | refine opv_run (addI _ _ _ _) ?_
              exact ⟨⟨k + 1, _, (by first | exact g51 | rfl), by omega, (by first | exact g10 | rfl), (by rw [← Gs.take_step (Gs.placesA_at (by omega))]; exact own_snoc own10), own5, rdc5, hcs5, (by assumption), (by assumption), h_b1, h_b2, rd1, rdc1, rdx, hF⟩, cnt_lt (by first | rfl | exact g51) rfl (by omega)⟩
            · refine condf ?_
              refine hJ5 _ _ ?_
              exact ⟨_, (by first | exact g10 | rfl), (by rw [List.take_of_length_le (by rw [Gs.placesA_len]; omega)] at own10; exact own10), own5, rdc5, hcs5, (fun k hk hs => ho10 k hs hk), h_b1, h_b2, rd1, rdc1, rdx, hF⟩
        · obtain ⟨v10, g10, own10, own5, rdc5, hcs5, ho10s, h_b1, h_b2, rd1, rdc1, rdx, hF⟩ := hI
          try rw [g10]
          obtain ⟨A10, c10, rfl, _⟩ := own10.rd1
          have hpla := Gs.placesA_len cs
          refine callY_ofc (by kernel_rfl) (by first | rfl | simp) (callF_ex (c_items_list h_b2 rdx rfl hcw own10.rdS rfl (fun i hi => Gs.placesA_mem hi) (by omega)) (fun v26 w26 D26 => ?_))
          obtain ⟨A61, c61, rfl, own61, U26⟩ := D26
          have nx26_own10_own61 : ∀ k, ownS _ k → ¬ ownS _ k := fun k hk hs => by have := (Own.ge own10 hk).2; have := (Own.ge own61 hs).1; omega
          have nx26_own5_own61 : ∀ k, ownS _ k → ¬ ownS _ k := fun k hk hs => by have := (Own.ge own5 hk).2; have := (Own.ge own61 hs).1; omega
          have nx26_rdc5_own61 : _ ∨ ∀ k, _ → ¬ ownS _ k := (rdc5.lt).imp_right fun h k hk hs => by have := h k hk; have := (Own.ge own61 hs).1; omega
          have nx26_h_b1_own61 : ¬ ownS _ b1 := fun h => by have := (Own.ge own61 h).1; have := lt_get h_b1; omega
          have nx26_h_b2_own61 : ¬ ownS _ b2 := fun h => by have := (Own.ge own61 h).1; have := lt_get h_b2; omega
          have nx26_rd1_own61 : _ ∨ ∀ k, _ → ¬ ownS _ k := (rd1.lt).imp_right fun h k hk hs => by have := h k hk; have := (Own.ge own61 hs).1; omega
          have nx26_rdc1_own61 : _ ∨ ∀ k, _ → ¬ ownS _ k := (rdc1.lt).imp_right fun h k hk hs => by have := h k hk; have := (Own.ge own61 hs).1; omega
          have nx26_rdx_own61 : _ ∨ ∀ k, _ → ¬ ownS _ k := (rdx.lt).imp_right fun h k hk hs => by have := h k hk; have := (Own.ge own61 hs).1; omega
          replace own61 := own61.mono (B' := w.heap.size) hF.size
          replace own10 := own10.upd0 U26
          replace own5 := own5.upd0 U26
          replace rdc5 := rdc5.upd0 U26
          replace rd1 := rd1.upd0 U26
          replace rdc1 := rdc1.upd0 U26
          replace rdx := rdx.upd0 U26
          replace h_b1 := U26.get0 h_b1
          replace h_b2 := U26.get0 h_b2
          replace hF := hF.go0 U26
          replace rdc5 := rdc5.snoc (x := Gs.It.mk (-1) A61 c61 (Gs.standL cs (Gs.placesA cs))) own61.rdS
          replace hcs5 := Gs.clB_own (y := Gs.It.mk (-1) A61 c61 (Gs.standL cs (Gs.placesA cs))) hcs5 nx26_own5_own61
          refine opv_run (len_sl (by kernel_rfl) _ _ _) ?_
          refine opv_dec (gtr _ _ _ _) (fun h27 => ?_) (fun h27 => ?_)
          · refine condt ?_
            refine opv_run (build_eq (l := [(0, 1), (1, 1)]) (z := #[.int .i64 0, .slice none 0 0]) (cs := Gs.ie (Gs.It.mk (-1) A61 c61 (Gs.standL cs (Gs.placesA cs)))) (by kernel_rfl) (by rfl)) ?_
            refine buildSlice_intro (e := 71) (m := 2) (z := #[.int .i64 0, .slice none 0 0]) (by kernel_rfl) (by kernel_rfl) (by rfl) (by decide) (by first | (simp [fillL, splice, repL, Value.cells, Gs.cv, Gs.fv, Gs.ie]; done) | (simp [fillL, splice, repL, Value.cells, Gs.cv, Gs.fv, Gs.ie]; rfl)) (fun b29 w29 e29 h_b29 _ U29 => ?_)
            have na_own10_b29 := own10.apart e29
            have na_own5_b29 := own5.apart e29
            have na_rdc5_b29 := rdc5.apart e29
            have ne_b1_b29 : b1 ≠ b29 := by have := lt_get h_b1; omega
            have ne_b2_b29 : b2 ≠ b29 := by have := lt_get h_b2; omega
            have na_rd1_b29 := rd1.apart e29
            have na_rdc1_b29 := rdc1.apart e29
            have na_rdx_b29 := rdx.apart e29
            have na_own61_b29 := own61.apart e29
            have ge_b29 : w.heap.size ≤ b29 := by have := hF.size; omega
            replace own10 := own10.upd0 U29
            replace own5 := own5.upd0 U29
            replace rdc5 := rdc5.upd0 U29
            replace rd1 := rd1.upd0 U29
            replace rdc1 := rdc1.upd0 U29
            replace rdx := rdx.upd0 U29
            replace own61 := own61.upd0 U29
            replace h_b1 := U29.get0 h_b1
            replace h_b2 := U29.get0 h_b2
            replace hF := hF.go0 U29
            clear e29
            refine app_introA (e := 71) (size := 2) (bytes := 32) (by kernel_rfl) own5 (show Rd _ (some ⟨b29, 0, none⟩) (rows Gs.ie [(Gs.It.mk (-1) A61 c61 (Gs.standL cs (Gs.placesA cs)))]) from Rd.of_blockL h_b29) (by first | exact rows_len Gs.encIt _ | (rw [rows_len Gs.encIt]; omega)) (rows_one Gs.encIt _) (by rw [rows_len Gs.encIt, rows_len Gs.encIt]; try simp only [List.length_nil, List.length_cons, List.length_take, List.length_append]; omega) (by have := hF.size; omega) (fun v30 w30 N30 hA30 U30 => ?_)
            have own5_o := own5
            have nb30_own10 := ap_own (S' := w29) ho10s own10 hA30
            have nb30_rdc5 := Gs.ap_rdc (S' := w29) hcs5 rdc5 hA30
            have nb30_own61 := ap_own (S' := w29) (fun k hk hs => nx26_own5_own61 k hs hk) own61 hA30
            have nc30_b29 : ∀ k, ownS v30 k → k ≠ b29 := fun k hk e => Or.elim (hA30 k hk) (fun h => na_own5_b29 k h e) (fun h => by have := lt_get h_b29; omega)
            replace own10 := own10.updS U30 ho10s
            replace own5 := N30
            replace rdc5 := rdc5.updS U30 hcs5
            replace h_b1 := U30.get h_b1 (fun h => by first | (have := Own.ge own5_o h; omega) | exact Own.ne_blk own5_o h_b1 (by decide) _ h rfl | exact Own.not_loop own5_o h_b1 (by assumption) _ h rfl | exact Own.not_def own5_o h_b1 _ h rfl | simp_all)
            replace h_b2 := U30.get h_b2 (fun h => by first | (have := Own.ge own5_o h; omega) | exact Own.ne_blk own5_o h_b2 (by decide) _ h rfl | exact Own.not_loop own5_o h_b2 (by assumption) _ h rfl | exact Own.not_def own5_o h_b2 _ h rfl | simp_all)
            replace rd1 := rd1.updS U30 (lt_rd1.imp_right fun h k hk hs => by have := h k hk; have := (Own.ge own5_o hs).1; omega)
            replace rdc1 := rdc1.updS U30 (lt_rdc1.imp_right fun h k hk hs => by have := h k hk; have := (Own.ge own5_o hs).1; omega)
            replace rdx := rdx.updS U30 (lt_rdx.imp_right fun h k hk hs => by have := h k hk; have := (Own.ge own5_o hs).1; omega)
            replace own61 := own61.updS U30 (fun k hk hs => nx26_own5_own61 k hs hk)
            replace h_b29 := U30.get h_b29 (fun h => na_own5_b29 _ h rfl)
            replace hF := hF.go U30 (fun i h hs => by first | exact hs | exact .inl hs | exact .inr hs | (have := (Own.ge own5_o hs).1; omega))
            clear own5_o
            rw [rows_append] at own5
            try simp only [List.nil_append] at own5
            obtain ⟨A30, c30, rfl⟩ := Own.open Gs.encIt own5
            refine hJ4 _ _ ?_
            exact ⟨_, _, _, (by first | exact g5 | rfl), (by first | exact Gs.want_1 (by assumption) hw5 (by assumption) | exact Gs.want_0 (by assumption) hw5 (by assumption) | exact Gs.want_n (by assumption) hw5), own5, (by first | exact rdc5 | exact fun x hx => rdc5 x (List.mem_append_left _ hx)), h_b1, rd1, rdc1, hF⟩
          · refine condf ?_
            refine hJ4 _ _ ?_
            exact ⟨_, _, _, (by first | exact g5 | rfl), (by first | exact Gs.want_1 (by assumption) hw5 (by assumption) | exact Gs.want_0 (by assumption) hw5 (by assumption) | exact Gs.want_n (by assumption) hw5), own5, (by first | exact rdc5 | exact fun x hx => rdc5 x (List.mem_append_left _ hx)), h_b1, rd1, rdc1, hF⟩
      · refine condf ?_
        refine hJ4 _ _ ?_
        exact ⟨_, _, _, (by first | exact g5 | rfl), (by first | exact Gs.want_1 (by assumption) hw5 (by assumption) | exact Gs.want_0 (by assumption) hw5 (by assumption) | exact Gs.want_n (by assumption) hw5), own5, (by first | exact rdc5 | exact fun x hx => rdc5 x (List.mem_append_left _ hx)), h_b1, rd1, rdc1, hF⟩
    · obtain ⟨l5, A5, c5, g5, hw5, own5, rdc5, h_b1, rd1, rdc1, hF⟩ := hI
      try rw [g5]
      refine opv_run (ldA (n := 4) (cs' := #[.int .u8 aid1, .bool al1, .int .i64 cur1, .slice A1 n1 cp1]) (by kernel_rfl) h_b1 (by first | exact Nat.le_of_ble_eq_true rfl | (simp; done) | omega) (by rfl)) ?_
      refine opv_run (fieldAt_eq (off := 0) (by kernel_rfl)) ?_
      refine opv_run (ldC (by kernel_rfl) h_b1 (by rfl)) ?_
      refine opv_run (fieldAt_eq (off := 2) (by kernel_rfl)) ?_
      refine opv_run (ldC (by kernel_rfl) h_b1 (by rfl)) ?_
      refine opv_run (build_eq (l := [(0, 1), (1, 1), (2, 1), (3, 1)]) (z := #[.int .u8 0, .bool false, .int .i64 0, .slice none 0 0]) (cs := [.int .u8 aid1, .bool false, .int .i64 cur1, .slice A5 l5.length c5]) (by kernel_rfl) (by rfl)) ?_
      refine callF_val (c_gr_Same rd1 hn1 rdc1 own5.rdS rfl rdc5 hbd hcb) (fun w32 U32 => ?_)
      replace own5 := own5.upd0 U32
      replace rdc5 := rdc5.upd0 U32
      replace rd1 := rd1.upd0 U32
      replace rdc1 := rdc1.upd0 U32
      replace h_b1 := U32.get0 h_b1
      replace hF := hF.go0 U32
      exact ⟨by rw [hw5], hF⟩

end Go.Proofs.YtkjkmahpkfbbnaaGreatDoor
