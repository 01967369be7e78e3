/-
  Contracts of functions of the program, walked over their shallow forms. No condition but the ones that each states.
-/
import Derived.Test.YtkjkmahpkfbbnaaDoorGk
namespace Go.Proofs.YtkjkmahpkfbbnaaDoor
open Go Go.Sh
set_option linter.unusedVariables false
set_option maxRecDepth 100000


set_option maxHeartbeats 2000000 in
/-- greenscreen/greenscreenref25.Parse -/
theorem c_ref25_Parse {A : Option Addr} {n cp : Nat} {bs : List Int} {w : World} (rd1 : Rd w A (vals .u8 bs)) (hn : n = bs.length) (hc : n ≤ cp) (hbs : Bs bs) (hbd : n ≤ 100000) :
    Calls Tryd.prog 9 #[.slice A n cp] w fun e w' => ∃ v, e = .returned v ∧ ∃ (q : Gs.Inb) (l : List Gs.It) (A' : Option Addr) (c' : Nat), q = Gs.inbV bs ∧ q.items = Gs.its l ∧ v = .tuple #[.agg #[.int .u8 q.aid, .bool q.alone, .int .i64 q.cur, .slice A' l.length c'], .int .i64 (Gs.errV (Gs.inbF bs))] ∧ Rd w' A' (rows Gs.ie l) ∧ Gs.Cl w' l ∧ Gs.Iw l ∧ GeA A' (rows Gs.ie l) w.heap.size ∧ Gs.GeC l w.heap.size ∧ (0 ≤ q.aid ∧ q.aid ≤ 255) ∧ Upd no w w' := by
  refine F9.calls ?_
  unfold F9
  have lt_rd1 := rd1.lt
  have hF : Upd no w w := Fr.refl _ _ _
  refine alloc_intro (cs := #[.int .u8 0, .bool false, .int .i64 0, .slice none 0 0]) (by kernel_rfl) (fun b1 w1 e1 h_b1 _ U1 => ?_)
  have na_rd1_b1 := rd1.apart e1
  have ge_b1 : w.heap.size ≤ b1 := by have := hF.size; omega
  replace rd1 := rd1.upd0 U1
  replace hF := hF.go0 U1
  clear e1
  refine opv_run (len_sl (by kernel_rfl) _ _ _) ?_
  refine opv_dec (eqI _ _ _ _ _) (fun h2 => ?_) (fun h2 => ?_)
  · refine gdtf ?_
    refine gdtf ?_
    refine gdtf ?_
    refine pickt ?_
    refine condt ?_
    refine opv_run (build_eq (l := [(0, 1), (1, 1), (2, 1), (3, 1)]) (z := #[.int .u8 0, .bool false, .int .i64 0, .slice none 0 0]) (by kernel_rfl) (by first | (simp [fillL, splice, repL, Value.cells, Gs.cv, Gs.ie]; done) | (simp [fillL, splice, repL, Value.cells, Gs.cv, Gs.ie]; rfl))) ?_
    refine store_intro (n := 4) (by kernel_rfl) (by rfl) (by first | rfl | (simp [Value.cells, Value.oneCell', Gs.cv, Gs.ie]; done)) h_b1 (by first | exact Nat.le_of_ble_eq_true rfl | (simp; done) | omega) (by first | (simp; rfl) | rfl) (fun w3 N3 _ U3 => ?_)
    replace rd1 := rd1.upd1 U3 na_rd1_b1
    replace h_b1 := N3
    replace hF := hF.go1 U3 ge_b1
    refine ldv_run (ldA (n := 4) (by kernel_rfl) h_b1 (by first | exact Nat.le_of_ble_eq_true rfl | simp | omega) (by rfl)) ?_
    first | exact ⟨_, rfl, ⟨x?, true, 0, []⟩, [], none, 0, by unfold Gs.inbV; rw [Gs.inbF_1 hx? (by omega)], rfl, by rw [Gs.inbF_1 hx? (by omega)]; rfl, Rd.nil _ _, Gs.Cl.nil _, (fun _ h => by cases h), .inl rfl, .inl rfl, hbs.get hx?, hF⟩ | exact ⟨_, rfl, Gs.zinb, [], none, 0, by unfold Gs.inbV; rw [Gs.inbF_02 (by omega)], rfl, by rw [Gs.inbF_02 (by omega)]; rfl, Rd.nil _ _, Gs.Cl.nil _, (fun _ h => by cases h), .inl rfl, .inl rfl, by decide, hF⟩ | exact ⟨_, rfl, Gs.zinb, [], none, 0, by unfold Gs.inbV; rw [Gs.inbF_3e hya hyb hyc (Gs.preI_err hinv (Gs.drop_ne (by omega)) (Gs.ri_20 hx? (by assumption) (by omega)))], rfl, by rw [Gs.inbF_3e hya hyb hyc (Gs.preI_err hinv (Gs.drop_ne (by omega)) (Gs.ri_20 hx? (by assumption) (by omega)))]; rfl, Rd.nil _ _, Gs.Cl.nil _, (fun _ h => by cases h), .inl rfl, .inl rfl, by decide, hF⟩ | exact ⟨_, rfl, Gs.zinb, [], none, 0, by unfold Gs.inbV; rw [Gs.inbF_3e hya hyb hyc (Gs.preI_err hinv (Gs.drop_ne hii) (by rw [hI, Gs.preC_err hC (Gs.hd_on hx? (by assumption)) (hc81.resolve_left (fun h => absurd h.1 (by assumption))).2]; rfl))], rfl, by rw [Gs.inbF_3e hya hyb hyc (Gs.preI_err hinv (Gs.drop_ne hii) (by rw [hI, Gs.preC_err hC (Gs.hd_on hx? (by assumption)) (hc81.resolve_left (fun h => absurd h.1 (by assumption))).2]; rfl))]; rfl, Rd.nil _ _, Gs.Cl.nil _, (fun _ h => by cases h), .inl rfl, .inl rfl, by decide, hF⟩ | exact ⟨_, rfl, ⟨x?, false, Gs.decodeM x? x?, Gs.its l⟩, l, A4, c4, by unfold Gs.inbV; rw [Gs.inbF_3k hx? hx? hx? hfin], rfl, by rw [Gs.inbF_3k hx? hx? hx? hfin]; rfl, own4.rdS, rdc, hiw, .inr (fun k hk => (own4.geb k hk).1), .inr hcg, hbs.get hx?, hF⟩
  · refine gdff ?_
    refine gdff ?_
    refine opv_run (len_sl (by kernel_rfl) _ _ _) ?_
    refine gdff ?_
    refine opv_dec (eqI _ _ _ _ _) (fun h5 => ?_) (fun h5 => ?_)
    · refine pickf ?_
      refine condt ?_
      refine opv_run (build_eq (l := [(0, 1), (1, 1), (2, 1), (3, 1)]) (z := #[.int .u8 0, .bool false, .int .i64 0, .slice none 0 0]) (by kernel_rfl) (by first | (simp [fillL, splice, repL, Value.cells, Gs.cv, Gs.ie]; done) | (simp [fillL, splice, repL, Value.cells, Gs.cv, Gs.ie]; rfl))) ?_
      refine store_intro (n := 4) (by kernel_rfl) (by rfl) (by first | rfl | (simp [Value.cells, Value.oneCell', Gs.cv, Gs.ie]; done)) h_b1 (by first | exact Nat.le_of_ble_eq_true rfl | (simp; done) | omega) (by first | (simp; rfl) | rfl) (fun w6 N6 _ U6 => ?_)
      replace rd1 := rd1.upd1 U6 na_rd1_b1
      replace h_b1 := N6
      replace hF := hF.go1 U6 ge_b1
      refine ldv_run (ldA (n := 4) (by kernel_rfl) h_b1 (by first | exact Nat.le_of_ble_eq_true rfl | simp | omega) (by rfl)) ?_
      first | exact ⟨_, rfl, ⟨x?, true, 0, []⟩, [], none, 0, by unfold Gs.inbV; rw [Gs.inbF_1 hx? (by omega)], rfl, by rw [Gs.inbF_1 hx? (by omega)]; rfl, Rd.nil _ _, Gs.Cl.nil _, (fun _ h => by cases h), .inl rfl, .inl rfl, hbs.get hx?, hF⟩ | exact ⟨_, rfl, Gs.zinb, [], none, 0, by unfold Gs.inbV; rw [Gs.inbF_02 (by omega)], rfl, by rw [Gs.inbF_02 (by omega)]; rfl, Rd.nil _ _, Gs.Cl.nil _, (fun _ h => by cases h), .inl rfl, .inl rfl, by decide, hF⟩ | exact ⟨_, rfl, Gs.zinb, [], none, 0, by unfold Gs.inbV; rw [Gs.inbF_3e hya hyb hyc (Gs.preI_err hinv (Gs.drop_ne (by omega)) (Gs.ri_20 hx? (by assumption) (by omega)))], rfl, by rw [Gs.inbF_3e hya hyb hyc (Gs.preI_err hinv (Gs.drop_ne (by omega)) (Gs.ri_20 hx? (by assumption) (by omega)))]; rfl, Rd.nil _ _, Gs.Cl.nil _, (fun _ h => by cases h), .inl rfl, .inl rfl, by decide, hF⟩ | exact ⟨_, rfl, Gs.zinb, [], none, 0, by unfold Gs.inbV; rw [Gs.inbF_3e hya hyb hyc (Gs.preI_err hinv (Gs.drop_ne hii) (by rw [hI, Gs.preC_err hC (Gs.hd_on hx? (by assumption)) (hc81.resolve_left (fun h => absurd h.1 (by assumption))).2]; rfl))], rfl, by rw [Gs.inbF_3e hya hyb hyc (Gs.preI_err hinv (Gs.drop_ne hii) (by rw [hI, Gs.preC_err hC (Gs.hd_on hx? (by assumption)) (hc81.resolve_left (fun h => absurd h.1 (by assumption))).2]; rfl))]; rfl, Rd.nil _ _, Gs.Cl.nil _, (fun _ h => by cases h), .inl rfl, .inl rfl, by decide, hF⟩ | exact ⟨_, rfl, ⟨x?, false, Gs.decodeM x? x?, Gs.its l⟩, l, A4, c4, by unfold Gs.inbV; rw [Gs.inbF_3k hx? hx? hx? hfin], rfl, by rw [Gs.inbF_3k hx? hx? hx? hfin]; rfl, own4.rdS, rdc, hiw, .inr (fun k hk => (own4.geb k hk).1), .inr hcg, hbs.get hx?, hF⟩
    · refine pickf ?_
      refine condf ?_
      refine opv_run (len_sl (by kernel_rfl) _ _ _) ?_
      refine opv_dec (eqI _ _ _ _ _) (fun h8 => ?_) (fun h8 => ?_)
      · refine condt ?_
        refine idx_int (by kernel_rfl) (by kernel_rfl) rd1 (by first | rfl | assumption | omega | (simp; done) | (simp [vals_length, *]; done) | (simp [vals_length] at *; omega)) (by omega) (by omega) (fun x9 hx9 => ?_)
        try simp only [Int.toNat_natCast] at hx9
        refine opv_run (build_eq (l := [(0, 1), (1, 1), (2, 1), (3, 1)]) (z := #[.int .u8 0, .bool false, .int .i64 0, .slice none 0 0]) (cs := [.int .u8 x9, .bool true, .int .i64 0, .slice none 0 0]) (by kernel_rfl) (by rfl)) ?_
        refine store_intro (n := 4) (cs' := #[.int .u8 x9, .bool true, .int .i64 0, .slice none 0 0]) (by kernel_rfl) (by rfl) (by first | rfl | (simp [Value.cells, Value.oneCell', Gs.cv, Gs.ie]; done)) h_b1 (by first | exact Nat.le_of_ble_eq_true rfl | (simp; done) | omega) (by rfl) (fun w11 N11 _ U11 => ?_)
        replace rd1 := rd1.upd1 U11 na_rd1_b1
        replace h_b1 := N11
        replace hF := hF.go1 U11 ge_b1
        refine ldv_run (ldA (n := 4) (by kernel_rfl) h_b1 (by first | exact Nat.le_of_ble_eq_true rfl | simp | omega) (by rfl)) ?_
        first | exact ⟨_, rfl, ⟨x9, true, 0, []⟩, [], none, 0, by unfold Gs.inbV; rw [Gs.inbF_1 hx9 (by omega)], rfl, by rw [Gs.inbF_1 hx9 (by omega)]; rfl, Rd.nil _ _, Gs.Cl.nil _, (fun _ h => by cases h), .inl rfl, .inl rfl, hbs.get hx9, hF⟩ | exact ⟨_, rfl, Gs.zinb, [], none, 0, by unfold Gs.inbV; rw [Gs.inbF_02 (by omega)], rfl, by rw [Gs.inbF_02 (by omega)]; rfl, Rd.nil _ _, Gs.Cl.nil _, (fun _ h => by cases h), .inl rfl, .inl rfl, by decide, hF⟩ | exact ⟨_, rfl, Gs.zinb, [], none, 0, by unfold Gs.inbV; rw [Gs.inbF_3e hya hyb hyc (Gs.preI_err hinv (Gs.drop_ne (by omega)) (Gs.ri_20 hx? (by assumption) (by omega)))], rfl, by rw [Gs.inbF_3e hya hyb hyc (Gs.preI_err hinv (Gs.drop_ne (by omega)) (Gs.ri_20 hx? (by assumption) (by omega)))]; rfl, Rd.nil _ _, Gs.Cl.nil _, (fun _ h => by cases h), .inl rfl, .inl rfl, by decide, hF⟩ | exact ⟨_, rfl, Gs.zinb, [], none, 0, by unfold Gs.inbV; rw [Gs.inbF_3e hya hyb hyc (Gs.preI_err hinv (Gs.drop_ne hii) (by rw [hI, Gs.preC_err hC (Gs.hd_on hx? (by assumption)) (hc81.resolve_left (fun h => absurd h.1 (by assumption))).2]; rfl))], rfl, by rw [Gs.inbF_3e hya hyb hyc (Gs.preI_err hinv (Gs.drop_ne hii) (by rw [hI, Gs.preC_err hC (Gs.hd_on hx? (by assumption)) (hc81.resolve_left (fun h => absurd h.1 (by assumption))).2]; rfl))]; rfl, Rd.nil _ _, Gs.Cl.nil _, (fun _ h => by cases h), .inl rfl, .inl rfl, by decide, hF⟩ | exact ⟨_, rfl, ⟨x?, false, Gs.decodeM x? x?, Gs.its l⟩, l, A4, c4, by unfold Gs.inbV; rw [Gs.inbF_3k hx? hx? hx? hfin], rfl, by rw [Gs.inbF_3k hx? hx? hx? hfin]; rfl, own4.rdS, rdc, hiw, .inr (fun k hk => (own4.geb k hk).1), .inr hcg, hbs.get hx?, hF⟩
      · refine condf ?_
        refine drawn_S (S := no) (fun w13 U13 => ?_)
        replace rd1 := rd1.upd0 U13
        replace h_b1 := U13.get0 h_b1
        replace hF := hF.go0 U13
        refine qidx1 (by kernel_rfl) (by kernel_rfl) (fun w' hw' => rd1.upd0 hw') (Fr.refl _ _ _) (by first | rfl | assumption | omega | (simp; done) | (simp [vals_length, *]; done) | (simp [vals_length] at *; omega)) (by omega) (by omega) (fun x14 hx14 => ?_)
        try simp only [Int.toNat_natCast] at hx14
        refine qidx1 (by kernel_rfl) (by kernel_rfl) (fun w' hw' => rd1.upd0 hw') (Fr.refl _ _ _) (by first | rfl | assumption | omega | (simp; done) | (simp [vals_length, *]; done) | (simp [vals_length] at *; omega)) (by omega) (by omega) (fun x15 hx15 => ?_)
        try simp only [Int.toNat_natCast] at hx15
        refine qidx1 (by kernel_rfl) (by kernel_rfl) (fun w' hw' => rd1.upd0 hw') (Fr.refl _ _ _) (by first | rfl | assumption | omega | (simp; done) | (simp [vals_length, *]; done) | (simp [vals_length] at *; omega)) (by omega) (by omega) (fun x16 hx16 => ?_)
        try simp only [Int.toNat_natCast] at hx16
        refine qop_call (fun w' hw' => c_ref02_Decode (hbs.get hx15) (hbs.get hx16)) ?_
        refine qop_run (fun w' hw' => (build_eq (l := [(0, 1), (1, 1), (2, 1), (3, 1)]) (z := #[.int .u8 0, .bool false, .int .i64 0, .slice none 0 0]) (cs := [.int .u8 x14, .bool false, .int .i64 (Gs.decodeM x15 x16), .slice none 0 0]) (by kernel_rfl) (by rfl))) ?_
        refine ext_intro (fun w19 U19 => ?_)
        replace rd1 := rd1.upd0 U19
        replace h_b1 := U19.get0 h_b1
        replace hF := hF.go0 U19
        refine lop_i ?_
        refine alloc_intro (cs := #[.int .u8 0, .bool false, .int .i64 0, .slice none 0 0]) (by kernel_rfl) (fun b20 w20 e20 h_b20 _ U20 => ?_)
        have na_rd1_b20 := rd1.apart e20
        have ne_b1_b20 : b1 ≠ b20 := by have := lt_get h_b1; omega
        have ge_b20 : w.heap.size ≤ b20 := by have := hF.size; omega
        replace rd1 := rd1.upd0 U20
        replace h_b1 := U20.get0 h_b1
        replace hF := hF.go0 U20
        clear e20
        refine ⟨U20, ?_⟩
        refine ext_intro (fun w21 U21 => ?_)
        replace rd1 := rd1.upd0 U21
        replace h_b1 := U21.get0 h_b1
        replace h_b20 := U21.get0 h_b20
        replace hF := hF.go0 U21
        refine store_intro (n := 4) (cs' := #[.int .u8 x14, .bool false, .int .i64 (Gs.decodeM x15 x16), .slice none 0 0]) (by kernel_rfl) (by rfl) (by first | rfl | (simp [Value.cells, Value.oneCell', Gs.cv, Gs.ie]; done)) h_b20 (by first | exact Nat.le_of_ble_eq_true rfl | (simp; done) | omega) (by rfl) (fun w22 N22 _ U22 => ?_)
        replace rd1 := rd1.upd1 U22 na_rd1_b20
        replace h_b1 := U22.get1 h_b1 ne_b1_b20
        replace h_b20 := N22
        replace hF := hF.go1 U22 ge_b20
        refine ext_intro (fun w23 U23 => ?_)
        replace rd1 := rd1.upd0 U23
        replace h_b1 := U23.get0 h_b1
        replace h_b20 := U23.get0 h_b20
        replace hF := hF.go0 U23
        refine join_cut (fun g w' => ∃ (l : List Gs.It) (A4 : Option Addr) (c4 : Nat), (Gs.itemsF (bs.drop 3) = .ok (Gs.its l)) ∧ (w'.heap[b1]? = some (.cells #[.int .u8 0, .bool false, .int .i64 0, .slice none 0 0] 32 (0, 0))) ∧ (w'.heap[b20]? = some (.cells #[.int .u8 x14, .bool false, .int .i64 (Gs.decodeM x15 x16), .slice A4 l.length c4] 32 (0, 0))) ∧ (Own w.heap.size w' 65 2 (.slice A4 l.length c4) (rows Gs.ie l)) ∧ (Gs.Cl w' l) ∧ (∀ k, Gs.clB l k → w.heap.size ≤ k) ∧ (Gs.Iw l) ∧ (l = [] ∨ ∀ k, Gs.clB l k → k ≠ b1) ∧ (Upd no w w')) (fun J1 hJ1 => ?_) (fun gJ1 wJ1 hI => ?_)
        · refine loop_intro (fun g w' => ∃ (i : Nat) (l : List Gs.It) (A4 : Option Addr) (c4 : Nat), (g 5 = .int .i64 (i : Nat)) ∧ (3 ≤ i ∧ i ≤ bs.length) ∧ (Gs.itemsF (bs.drop 3) = Gs.preI (Gs.its l) (Gs.itemsF (bs.drop i))) ∧ (l.length ≤ i) ∧ (w'.heap[b1]? = some (.cells #[.int .u8 0, .bool false, .int .i64 0, .slice none 0 0] 32 (0, 0))) ∧ (w'.heap[b20]? = some (.cells #[.int .u8 x14, .bool false, .int .i64 (Gs.decodeM x15 x16), .slice A4 l.length c4] 32 (0, 0))) ∧ (Own w.heap.size w' 65 2 (.slice A4 l.length c4) (rows Gs.ie l)) ∧ (Gs.Cl w' l) ∧ (∀ k, Gs.clB l k → w.heap.size ≤ k) ∧ (l = [] ∨ ∀ k, Gs.clB l k → ¬ ownS (.slice A4 l.length c4) k) ∧ (Gs.Iw l) ∧ (l = [] ∨ ∀ k, Gs.clB l k → k ≠ b1) ∧ (l = [] ∨ ∀ k, Gs.clB l k → k ≠ b20) ∧ (Rd w' A (vals .u8 bs)) ∧ (Upd no w w')) (fun g w' => bs.length - (RowKit.intOf (g 5)).toNat) ?_ (fun g2 wl2 hI => ?_)
          · exact ⟨3, [], _, _, rfl, (by omega), (Gs.preI_nil _), (by simp), h_b1, h_b20, (Own.nil _ _ _ _), (Gs.Cl.nil _), (fun k ⟨x, hx, _⟩ => by cases hx), (.inl rfl), (fun _ h => by cases h), (.inl rfl), (.inl rfl), rd1, hF⟩
          · obtain ⟨i, l, A4, c4, g5, hi3, hinv, hll, h_b1, h_b20, own4, rdc, hcg, hcs, hiw, hc2, hc4, rd1, hF⟩ := hI
            try rw [g5]
            obtain ⟨ya, yb, yc, hya, hyb, hyc⟩ := Gs.bs_3 (bs := bs) (by omega)
            refine opv_run (len_sl (by kernel_rfl) _ _ _) ?_
            refine opv_dec (lss _ _ _ _) (fun h24 => ?_) (fun h24 => ?_)
            · refine condt ?_
              refine opv_run (build_eq (l := [(0, 1), (1, 1)]) (z := #[.int .i64 0, .slice none 0 0]) (cs := Gs.ie ⟨(-1), none, 0, []⟩) (by kernel_rfl) (by rfl)) ?_
              refine alloc_intro (cs := #[.int .i64 0, .slice none 0 0]) (by kernel_rfl) (fun b26 w26 e26 h_b26 _ U26 => ?_)
              have ne_b1_b26 : b1 ≠ b26 := by have := lt_get h_b1; omega
              have ne_b20_b26 : b20 ≠ b26 := by have := lt_get h_b20; omega
              have na_own4_b26 := own4.apart e26
              have na_rdc_b26 := rdc.apart e26
              have na_rd1_b26 := rd1.apart e26
              have ge_b26 : w.heap.size ≤ b26 := by have := hF.size; omega
              replace own4 := own4.upd0 U26
              replace rdc := rdc.upd0 U26
              replace rd1 := rd1.upd0 U26
              replace h_b1 := U26.get0 h_b1
              replace h_b20 := U26.get0 h_b20
              replace hF := hF.go0 U26
              clear e26
              refine store_intro (n := 2) (cs' := (Gs.ie ⟨(-1), none, 0, []⟩).toArray) (by kernel_rfl) (by rfl) (by first | rfl | (simp [Value.cells, Value.oneCell', Gs.cv, Gs.ie]; done)) h_b26 (by first | exact Nat.le_of_ble_eq_true rfl | (simp; done) | omega) (by rfl) (fun w27 N27 _ U27 => ?_)
              replace own4 := own4.upd1 U27 na_own4_b26
              replace rdc := rdc.upd1 U27 na_rdc_b26
              replace rd1 := rd1.upd1 U27 na_rd1_b26
              replace h_b1 := U27.get1 h_b1 ne_b1_b26
              replace h_b20 := U27.get1 h_b20 ne_b20_b26
              replace h_b26 := N27
              replace hF := hF.go1 U27 ge_b26
              refine join_cut (fun g w' => ∃ (p : Int) (i1 : Nat), (g 5 = .int .i64 (i1 : Nat)) ∧ (Gs.itemF (bs.drop i) = Gs.inIt p (Gs.cellsF (bs.drop i1))) ∧ (i ≤ i1 ∧ i1 ≤ bs.length) ∧ (i < bs.length) ∧ (w'.heap[b1]? = some (.cells #[.int .u8 0, .bool false, .int .i64 0, .slice none 0 0] 32 (0, 0))) ∧ (w'.heap[b20]? = some (.cells #[.int .u8 x14, .bool false, .int .i64 (Gs.decodeM x15 x16), .slice A4 l.length c4] 32 (0, 0))) ∧ (w'.heap[b26]? = some (.cells #[.int .i64 p, .slice none 0 0] 65 (0, 0))) ∧ (Own w.heap.size w' 65 2 (.slice A4 l.length c4) (rows Gs.ie l)) ∧ (Gs.Cl w' l) ∧ (Rd w' A (vals .u8 bs)) ∧ (Upd no w w')) (fun J3 hJ3 => ?_) (fun gJ3 wJ3 hI => ?_)
              · refine idx_int (by kernel_rfl) (by kernel_rfl) rd1 (by first | rfl | assumption | omega | (simp; done) | (simp [vals_length, *]; done) | (simp [vals_length] at *; omega)) (by omega) (by omega) (fun x28 hx28 => ?_)
                try simp only [Int.toNat_natCast] at hx28
                refine opv_dec (eqI _ _ _ _ _) (fun h29 => ?_) (fun h29 => ?_)
                · refine condt ?_
                  first | refine opv_run (add_i64 _ (by omega)) ?_ | refine opv_run (addI _ _ _ _) ?_
                  refine opv_run (len_sl (by kernel_rfl) _ _ _) ?_
                  refine opv_dec (geq _ _ _ _) (fun h30 => ?_) (fun h30 => ?_)
                  · refine condt ?_
                    refine opv_run (build_eq (l := [(0, 1), (1, 1), (2, 1), (3, 1)]) (z := #[.int .u8 0, .bool false, .int .i64 0, .slice none 0 0]) (by kernel_rfl) (by first | (simp [fillL, splice, repL, Value.cells, Gs.cv, Gs.ie]; done) | (simp [fillL, splice, repL, Value.cells, Gs.cv, Gs.ie]; rfl))) ?_
                    refine store_intro (n := 4) (by kernel_rfl) (by rfl) (by first | rfl | (simp [Value.cells, Value.oneCell', Gs.cv, Gs.ie]; done)) h_b1 (by first | exact Nat.le_of_ble_eq_true rfl | (simp; done) | omega) (by first | (simp; rfl) | rfl) (fun w31 N31 _ U31 => ?_)
                    replace own4 := own4.upd1 U31 (by first | assumption | exact Own.ne_blk own4 (by assumption) (by decide) | exact Own.not_loop own4 (by assumption) (by assumption) | exact Own.not_def own4 (by assumption) | exact Own.not_loop own4 (by assumption) (lp3 _))
                    replace rdc := rdc.upd1 U31 (by assumption)
                    replace rd1 := rd1.upd1 U31 na_rd1_b1
                    replace h_b20 := U31.get1 h_b20 (Ne.symm ne_b1_b20)
                    replace h_b26 := U31.get1 h_b26 (Ne.symm ne_b1_b26)
                    replace h_b1 := N31
                    replace hF := hF.go1 U31 ge_b1
                    refine ldv_run (ldA (n := 4) (by kernel_rfl) h_b1 (by first | exact Nat.le_of_ble_eq_true rfl | simp | omega) (by rfl)) ?_
                    first | exact ⟨_, rfl, ⟨x9, true, 0, []⟩, [], none, 0, by unfold Gs.inbV; rw [Gs.inbF_1 hx9 (by omega)], rfl, by rw [Gs.inbF_1 hx9 (by omega)]; rfl, Rd.nil _ _, Gs.Cl.nil _, (fun _ h => by cases h), .inl rfl, .inl rfl, hbs.get hx9, hF⟩ | exact ⟨_, rfl, Gs.zinb, [], none, 0, by unfold Gs.inbV; rw [Gs.inbF_02 (by omega)], rfl, by rw [Gs.inbF_02 (by omega)]; rfl, Rd.nil _ _, Gs.Cl.nil _, (fun _ h => by cases h), .inl rfl, .inl rfl, by decide, hF⟩ | exact ⟨_, rfl, Gs.zinb, [], none, 0, by unfold Gs.inbV; rw [Gs.inbF_3e hya hyb hyc (Gs.preI_err hinv (Gs.drop_ne (by omega)) (Gs.ri_20 hx28 (by assumption) (by omega)))], rfl, by rw [Gs.inbF_3e hya hyb hyc (Gs.preI_err hinv (Gs.drop_ne (by omega)) (Gs.ri_20 hx28 (by assumption) (by omega)))]; rfl, Rd.nil _ _, Gs.Cl.nil _, (fun _ h => by cases h), .inl rfl, .inl rfl, by decide, hF⟩ | exact ⟨_, rfl, Gs.zinb, [], none, 0, by unfold Gs.inbV; rw [Gs.inbF_3e hya hyb hyc (Gs.preI_err hinv (Gs.drop_ne hii) (by rw [hI, Gs.preC_err hC (Gs.hd_on hx? (by assumption)) (hc81.resolve_left (fun h => absurd h.1 (by assumption))).2]; rfl))], rfl, by rw [Gs.inbF_3e hya hyb hyc (Gs.preI_err hinv (Gs.drop_ne hii) (by rw [hI, Gs.preC_err hC (Gs.hd_on hx? (by assumption)) (hc81.resolve_left (fun h => absurd h.1 (by assumption))).2]; rfl))]; rfl, Rd.nil _ _, Gs.Cl.nil _, (fun _ h => by cases h), .inl rfl, .inl rfl, by decide, hF⟩ | exact ⟨_, rfl, ⟨x14, false, Gs.decodeM x15 x16, Gs.its l⟩, l, A4, c4, by unfold Gs.inbV; rw [Gs.inbF_3k hx14 hx15 hx16 hfin], rfl, by rw [Gs.inbF_3k hx14 hx15 hx16 hfin]; rfl, own4.rdS, rdc, hiw, .inr (fun k hk => (own4.geb k hk).1), .inr hcg, hbs.get hx14, hF⟩
                  · refine condf ?_
                    refine drawn_S (S := no) (fun w33 U33 => ?_)
                    replace own4 := own4.upd0 U33
                    replace rdc := rdc.upd0 U33
                    replace rd1 := rd1.upd0 U33
                    replace h_b1 := U33.get0 h_b1
                    replace h_b20 := U33.get0 h_b20
                    replace h_b26 := U33.get0 h_b26
                    replace hF := hF.go0 U33
                    first | refine qop_run (fun w' hw' => (add_i64 _ (by omega))) ?_ | refine qop_run (fun w' hw' => (addI _ _ _ _)) ?_
                    refine qidx1 (by kernel_rfl) (by kernel_rfl) (fun w' hw' => rd1.upd0 hw') (Fr.refl _ _ _) (by first | rfl | assumption | omega | (simp; done) | (simp [vals_length, *]; done) | (simp [vals_length] at *; omega)) (by omega) (by omega) (fun x34 hx34 => ?_)
                    try simp only [Int.toNat_natCast] at hx34
                    first | refine qop_run (fun w' hw' => (add_i64 _ (by omega))) ?_ | refine qop_run (fun w' hw' => (addI _ _ _ _)) ?_
                    refine qidx1 (by kernel_rfl) (by kernel_rfl) (fun w' hw' => rd1.upd0 hw') (Fr.refl _ _ _) (by first | rfl | assumption | omega | (simp; done) | (simp [vals_length, *]; done) | (simp [vals_length] at *; omega)) (by omega) (by omega) (fun x35 hx35 => ?_)
                    try simp only [Int.toNat_natCast] at hx35
                    refine qop_call (fun w' hw' => c_ref02_Decode (hbs.get hx34) (hbs.get hx35)) ?_
                    refine qop_run (fun w' hw' => (fieldAt_eq (off := 0) (by kernel_rfl))) ?_
                    refine ext_intro (fun w37 U37 => ?_)
                    replace own4 := own4.upd0 U37
                    replace rdc := rdc.upd0 U37
                    replace rd1 := rd1.upd0 U37
                    replace h_b1 := U37.get0 h_b1
                    replace h_b20 := U37.get0 h_b20
                    replace h_b26 := U37.get0 h_b26
                    replace hF := hF.go0 U37
                    refine store1_intro (by kernel_rfl) rfl rfl h_b26 (by first | exact Nat.le_of_ble_eq_true rfl | (simp; done) | omega | (simp [vals_length, *]; done) | (simp [vals_length, *]; omega)) (by first | (simp [vals_set]; rfl) | rfl) (fun w38 N38 _ U38 => ?_)
                    replace own4 := own4.upd1 U38 na_own4_b26
                    replace rdc := rdc.upd1 U38 na_rdc_b26
                    replace rd1 := rd1.upd1 U38 na_rd1_b26
                    replace h_b1 := U38.get1 h_b1 ne_b1_b26
                    replace h_b20 := U38.get1 h_b20 ne_b20_b26
                    replace h_b26 := N38
                    replace hF := hF.go1 U38 ge_b26
                    refine ext_intro (fun w39 U39 => ?_)
                    replace own4 := own4.upd0 U39
                    replace rdc := rdc.upd0 U39
                    replace rd1 := rd1.upd0 U39
                    replace h_b1 := U39.get0 h_b1
                    replace h_b20 := U39.get0 h_b20
                    replace h_b26 := U39.get0 h_b26
                    replace hF := hF.go0 U39
                    first | refine opv_run (add_i64 _ (by omega)) ?_ | refine opv_run (addI _ _ _ _) ?_
                    refine hJ3 _ _ ?_
                    exact ⟨_, _, (by first | exact g5 | exact congrArg (Value.int .i64) (show _ = ((i + 3 : Nat) : Int) by omega)), (by first | exact Gs.ri_17 hx28 (by assumption) (show bs[i + 1]? = some x34 by rw [← show ((i : Int) + 1).toNat = i + 1 by omega]; exact hx34) (show bs[i + 2]? = some x35 by rw [← show ((i : Int) + 2).toNat = i + 2 by omega]; exact hx35) | exact Gs.ri_no hx28 (by assumption)), (by omega), (by omega), h_b1, h_b20, h_b26, own4, rdc, rd1, hF⟩
                · refine condf ?_
                  refine hJ3 _ _ ?_
                  exact ⟨_, _, (by first | exact g5 | exact congrArg (Value.int .i64) (show _ = ((i + 3 : Nat) : Int) by omega)), (by first | exact Gs.ri_17 hx28 (by assumption) (show bs[i + 1]? = some x34 by rw [← show ((i : Int) + 1).toNat = i + 1 by omega]; exact hx34) (show bs[i + 2]? = some x35 by rw [← show ((i : Int) + 2).toNat = i + 2 by omega]; exact hx35) | exact Gs.ri_no hx28 (by assumption)), (by omega), (by omega), h_b1, h_b20, h_b26, own4, rdc, rd1, hF⟩
              · obtain ⟨p, i1, g5, hI, hi1, hii, h_b1, h_b20, h_b26, own4, rdc, rd1, hF⟩ := hI
                try rw [g5]
                refine join_cut (fun g w' => ∃ (j : Nat) (xs : List Gs.Cell) (A7 : Option Addr) (c7 : Nat), (g 5 = .int .i64 (j : Nat)) ∧ (Gs.cellsF (bs.drop i1) = .ok (xs, bs.drop j)) ∧ (i1 ≤ j ∧ j ≤ bs.length) ∧ (Gs.Cws xs) ∧ (w'.heap[b1]? = some (.cells #[.int .u8 0, .bool false, .int .i64 0, .slice none 0 0] 32 (0, 0))) ∧ (w'.heap[b20]? = some (.cells #[.int .u8 x14, .bool false, .int .i64 (Gs.decodeM x15 x16), .slice A4 l.length c4] 32 (0, 0))) ∧ (w'.heap[b26]? = some (.cells #[.int .i64 p, .slice A7 xs.length c7] 65 (0, 0))) ∧ (Own w.heap.size w' 65 2 (.slice A4 l.length c4) (rows Gs.ie l)) ∧ (Own w.heap.size w' 59 5 (.slice A7 xs.length c7) (rows Gs.cv xs)) ∧ (∀ k, ownS (.slice A4 l.length c4) k → ¬ ownS (.slice A7 xs.length c7) k) ∧ (l = [] ∨ ∀ k, Gs.clB l k → ¬ ownS (.slice A7 xs.length c7) k) ∧ (Gs.Cl w' l) ∧ (Rd w' A (vals .u8 bs)) ∧ (Upd no w w')) (fun J4 hJ4 => ?_) (fun gJ4 wJ4 hI => ?_)
                · refine loop_intro (fun g w' => ∃ (j : Nat) (xs : List Gs.Cell) (A7 : Option Addr) (c7 : Nat), (g 5 = .int .i64 (j : Nat)) ∧ (Gs.cellsF (bs.drop i1) = Gs.preC xs (Gs.cellsF (bs.drop j))) ∧ (i1 ≤ j ∧ j ≤ bs.length) ∧ (Gs.Cws xs) ∧ (xs.length ≤ j) ∧ (w'.heap[b1]? = some (.cells #[.int .u8 0, .bool false, .int .i64 0, .slice none 0 0] 32 (0, 0))) ∧ (w'.heap[b20]? = some (.cells #[.int .u8 x14, .bool false, .int .i64 (Gs.decodeM x15 x16), .slice A4 l.length c4] 32 (0, 0))) ∧ (w'.heap[b26]? = some (.cells #[.int .i64 p, .slice A7 xs.length c7] 65 (0, 0))) ∧ (Own w.heap.size w' 65 2 (.slice A4 l.length c4) (rows Gs.ie l)) ∧ (Own w.heap.size w' 59 5 (.slice A7 xs.length c7) (rows Gs.cv xs)) ∧ (∀ k, ownS (.slice A4 l.length c4) k → ¬ ownS (.slice A7 xs.length c7) k) ∧ (l = [] ∨ ∀ k, Gs.clB l k → ¬ ownS (.slice A7 xs.length c7) k) ∧ (Gs.Cl w' l) ∧ (Rd w' A (vals .u8 bs)) ∧ (Upd no w w')) (fun g w' => bs.length - (RowKit.intOf (g 5)).toNat) ?_ (fun g5 wl5 hI => ?_)
                  · exact ⟨i1, [], _, _, (by first | exact g5 | rfl), (Gs.preC_nil _), (by omega), (fun _ h => by cases h), (by simp), h_b1, h_b20, h_b26, own4, (Own.nil _ _ _ _), (fun k _ h => by cases h), (.inr fun k _ h => by cases h), rdc, rd1, hF⟩
                  · obtain ⟨j, xs, A7, c7, g5, hC, hij, hxw, hxl, h_b1, h_b20, h_b26, own4, own7, n47, nc7, rdc, rd1, hF⟩ := hI
                    try rw [g5]
                    refine opv_run (len_sl (by kernel_rfl) _ _ _) ?_
                    refine opv_dec (lss _ _ _ _) (fun h40 => ?_) (fun h40 => ?_)
                    · refine gdtt ?_
                      refine gdtt ?_
                      refine gdtt ?_
                      refine idx_int (by kernel_rfl) (by kernel_rfl) rd1 (by first | rfl | assumption | omega | (simp; done) | (simp [vals_length, *]; done) | (simp [vals_length] at *; omega)) (by omega) (by omega) (fun x41 hx41 => ?_)
                      try simp only [Int.toNat_natCast] at hx41
                      refine gdtt ?_
                      refine opv_dec (neI _ _ _ _ _) (fun h42 => ?_) (fun h42 => ?_)
                      · refine pickt ?_
                        refine condt ?_
                        refine callF_ex (c_ref25_cell rd1 hn hbs (i := j) (by omega) (by omega)) (fun v43 w43 D43 => ?_)
                        obtain ⟨x81, m81, z81, rfl, hc81, U43⟩ := D43
                        replace own4 := own4.upd0 U43
                        replace own7 := own7.upd0 U43
                        replace rdc := rdc.upd0 U43
                        replace rd1 := rd1.upd0 U43
                        replace h_b1 := U43.get0 h_b1
                        replace h_b20 := U43.get0 h_b20
                        replace h_b26 := U43.get0 h_b26
                        replace hF := hF.go0 U43
                        refine opv_run (ext_t (by rfl)) ?_
                        refine opv_run (ext_t (by rfl)) ?_
                        refine opv_run (ext_t (by rfl)) ?_
                        refine alloc_intro (cs := (Gs.cv Gs.zc).toArray) (by kernel_rfl) (fun b44 w44 e44 h_b44 _ U44 => ?_)
                        have ne_b1_b44 : b1 ≠ b44 := by have := lt_get h_b1; omega
                        have ne_b20_b44 : b20 ≠ b44 := by have := lt_get h_b20; omega
                        have ne_b26_b44 : b26 ≠ b44 := by have := lt_get h_b26; omega
                        have na_own4_b44 := own4.apart e44
                        have na_own7_b44 := own7.apart e44
                        have na_rdc_b44 := rdc.apart e44
                        have na_rd1_b44 := rd1.apart e44
                        have ge_b44 : w.heap.size ≤ b44 := by have := hF.size; omega
                        replace own4 := own4.upd0 U44
                        replace own7 := own7.upd0 U44
                        replace rdc := rdc.upd0 U44
                        replace rd1 := rd1.upd0 U44
                        replace h_b1 := U44.get0 h_b1
                        replace h_b20 := U44.get0 h_b20
                        replace h_b26 := U44.get0 h_b26
                        replace hF := hF.go0 U44
                        clear e44
                        refine store_intro (n := 5) (cs' := (Gs.cv x81).toArray) (by kernel_rfl) (by rfl) (by first | rfl | (simp [Value.cells, Value.oneCell', Gs.cv, Gs.ie]; done)) h_b44 (by first | exact Nat.le_of_ble_eq_true rfl | (simp; done) | omega) (by rfl) (fun w45 N45 _ U45 => ?_)
                        replace own4 := own4.upd1 U45 na_own4_b44
                        replace own7 := own7.upd1 U45 na_own7_b44
                        replace rdc := rdc.upd1 U45 na_rdc_b44
                        replace rd1 := rd1.upd1 U45 na_rd1_b44
                        replace h_b1 := U45.get1 h_b1 ne_b1_b44
                        replace h_b20 := U45.get1 h_b20 ne_b20_b44
                        replace h_b26 := U45.get1 h_b26 ne_b26_b44
                        replace h_b44 := N45
                        replace hF := hF.go1 U45 ge_b44
                        refine opv_dec (neI _ _ _ _ _) (fun h46 => ?_) (fun h46 => ?_)
                        · refine condt ?_
                          refine opv_run (build_eq (l := [(0, 1), (1, 1), (2, 1), (3, 1)]) (z := #[.int .u8 0, .bool false, .int .i64 0, .slice none 0 0]) (by kernel_rfl) (by first | (simp [fillL, splice, repL, Value.cells, Gs.cv, Gs.ie]; done) | (simp [fillL, splice, repL, Value.cells, Gs.cv, Gs.ie]; rfl))) ?_
                          refine store_intro (n := 4) (by kernel_rfl) (by rfl) (by first | rfl | (simp [Value.cells, Value.oneCell', Gs.cv, Gs.ie]; done)) h_b1 (by first | exact Nat.le_of_ble_eq_true rfl | (simp; done) | omega) (by first | (simp; rfl) | rfl) (fun w47 N47 _ U47 => ?_)
                          replace own4 := own4.upd1 U47 (by first | assumption | exact Own.ne_blk own4 (by assumption) (by decide) | exact Own.not_loop own4 (by assumption) (by assumption) | exact Own.not_def own4 (by assumption) | exact Own.not_loop own4 (by assumption) (lp3 _))
                          replace own7 := own7.upd1 U47 (by first | assumption | exact Own.ne_blk own7 (by assumption) (by decide) | exact Own.not_loop own7 (by assumption) (by assumption) | exact Own.not_def own7 (by assumption) | exact Own.not_loop own7 (by assumption) (lp3 _))
                          replace rdc := rdc.upd1 U47 (by assumption)
                          replace rd1 := rd1.upd1 U47 na_rd1_b1
                          replace h_b20 := U47.get1 h_b20 (Ne.symm ne_b1_b20)
                          replace h_b26 := U47.get1 h_b26 (Ne.symm ne_b1_b26)
                          replace h_b44 := U47.get1 h_b44 (Ne.symm ne_b1_b44)
                          replace h_b1 := N47
                          replace hF := hF.go1 U47 ge_b1
                          refine ldv_run (ldA (n := 4) (by kernel_rfl) h_b1 (by first | exact Nat.le_of_ble_eq_true rfl | simp | omega) (by rfl)) ?_
                          first | exact ⟨_, rfl, ⟨x9, true, 0, []⟩, [], none, 0, by unfold Gs.inbV; rw [Gs.inbF_1 hx9 (by omega)], rfl, by rw [Gs.inbF_1 hx9 (by omega)]; rfl, Rd.nil _ _, Gs.Cl.nil _, (fun _ h => by cases h), .inl rfl, .inl rfl, hbs.get hx9, hF⟩ | exact ⟨_, rfl, Gs.zinb, [], none, 0, by unfold Gs.inbV; rw [Gs.inbF_02 (by omega)], rfl, by rw [Gs.inbF_02 (by omega)]; rfl, Rd.nil _ _, Gs.Cl.nil _, (fun _ h => by cases h), .inl rfl, .inl rfl, by decide, hF⟩ | exact ⟨_, rfl, Gs.zinb, [], none, 0, by unfold Gs.inbV; rw [Gs.inbF_3e hya hyb hyc (Gs.preI_err hinv (Gs.drop_ne (by omega)) (Gs.ri_20 hx28 (by assumption) (by omega)))], rfl, by rw [Gs.inbF_3e hya hyb hyc (Gs.preI_err hinv (Gs.drop_ne (by omega)) (Gs.ri_20 hx28 (by assumption) (by omega)))]; rfl, Rd.nil _ _, Gs.Cl.nil _, (fun _ h => by cases h), .inl rfl, .inl rfl, by decide, hF⟩ | exact ⟨_, rfl, Gs.zinb, [], none, 0, by unfold Gs.inbV; rw [Gs.inbF_3e hya hyb hyc (Gs.preI_err hinv (Gs.drop_ne hii) (by rw [hI, Gs.preC_err hC (Gs.hd_on hx41 (by assumption)) (hc81.resolve_left (fun h => absurd h.1 (by assumption))).2]; rfl))], rfl, by rw [Gs.inbF_3e hya hyb hyc (Gs.preI_err hinv (Gs.drop_ne hii) (by rw [hI, Gs.preC_err hC (Gs.hd_on hx41 (by assumption)) (hc81.resolve_left (fun h => absurd h.1 (by assumption))).2]; rfl))]; rfl, Rd.nil _ _, Gs.Cl.nil _, (fun _ h => by cases h), .inl rfl, .inl rfl, by decide, hF⟩ | exact ⟨_, rfl, ⟨x14, false, Gs.decodeM x15 x16, Gs.its l⟩, l, A4, c4, by unfold Gs.inbV; rw [Gs.inbF_3k hx14 hx15 hx16 hfin], rfl, by rw [Gs.inbF_3k hx14 hx15 hx16 hfin]; rfl, own4.rdS, rdc, hiw, .inr (fun k hk => (own4.geb k hk).1), .inr hcg, hbs.get hx14, hF⟩
                        · refine condf ?_
                          obtain ⟨hc0, hc1, hc2x, hc3, hc4⟩ := hc81.resolve_right (fun h => h.1 (Classical.not_not.1 (by assumption)))
                          refine opv_run (fieldAt_eq (off := 1) (by kernel_rfl)) ?_
                          refine opv_run (ldC (by kernel_rfl) h_b26 (by rfl)) ?_
                          refine opv_run (ldA (n := 5) (cs' := (Gs.cv x81).toArray) (by kernel_rfl) h_b44 (by first | exact Nat.le_of_ble_eq_true rfl | (simp; done) | omega) (by rfl)) ?_
                          refine buildSlice_intro (e := 59) (m := 5) (z := #[.int .u8 0, .bool false, .bool false, .int .u8 0, .int .u8 0]) (by kernel_rfl) (by kernel_rfl) (by rfl) (by decide) (by first | (simp [fillL, splice, repL, Value.cells, Gs.cv, Gs.ie]; done) | (simp [fillL, splice, repL, Value.cells, Gs.cv, Gs.ie]; rfl)) (fun b49 w49 e49 h_b49 _ U49 => ?_)
                          have ne_b1_b49 : b1 ≠ b49 := by have := lt_get h_b1; omega
                          have ne_b20_b49 : b20 ≠ b49 := by have := lt_get h_b20; omega
                          have ne_b26_b49 : b26 ≠ b49 := by have := lt_get h_b26; omega
                          have na_own4_b49 := own4.apart e49
                          have na_own7_b49 := own7.apart e49
                          have na_rdc_b49 := rdc.apart e49
                          have na_rd1_b49 := rd1.apart e49
                          have ne_b44_b49 : b44 ≠ b49 := by have := lt_get h_b44; omega
                          have ge_b49 : w.heap.size ≤ b49 := by have := hF.size; omega
                          replace own4 := own4.upd0 U49
                          replace own7 := own7.upd0 U49
                          replace rdc := rdc.upd0 U49
                          replace rd1 := rd1.upd0 U49
                          replace h_b1 := U49.get0 h_b1
                          replace h_b20 := U49.get0 h_b20
                          replace h_b26 := U49.get0 h_b26
                          replace h_b44 := U49.get0 h_b44
                          replace hF := hF.go0 U49
                          clear e49
                          refine app_introA (e := 59) (size := 5) (bytes := 5) (by kernel_rfl) own7 (show Rd _ (some ⟨b49, 0, none⟩) (rows Gs.cv [x81]) from Rd.of_blockL h_b49) (by first | exact rows_len Gs.encC _ | (rw [rows_len Gs.encC]; omega)) (rows_one Gs.encC _) (by rw [rows_len Gs.encC, rows_len Gs.encC]; try simp only [List.length_nil, List.length_cons, List.length_take, List.length_append]; omega) (by have := hF.size; omega) (fun v50 w50 N50 hA50 U50 => ?_)
                          have own7_o := own7
                          have nb50_own4 := ap_own (S' := w49) n47 own4 hA50
                          have nb50_rdc := Gs.ap_rdc (S' := w49) nc7 rdc hA50
                          replace h_b1 := U50.get h_b1 (fun h => by first | (have := Own.ge own7_o h; omega) | exact Own.ne_blk own7_o h_b1 (by decide) _ h rfl | exact Own.not_loop own7_o h_b1 (by assumption) _ h rfl | exact Own.not_def own7_o h_b1 _ h rfl | simp_all)
                          replace h_b20 := U50.get h_b20 (fun h => by first | (have := Own.ge own7_o h; omega) | exact Own.ne_blk own7_o h_b20 (by decide) _ h rfl | exact Own.not_loop own7_o h_b20 (by assumption) _ h rfl | exact Own.not_def own7_o h_b20 _ h rfl | simp_all)
                          replace h_b26 := U50.get h_b26 (fun h => by first | (have := Own.ge own7_o h; omega) | exact Own.ne_blk own7_o h_b26 (by decide) _ h rfl | exact Own.not_loop own7_o h_b26 (by assumption) _ h rfl | exact Own.not_def own7_o h_b26 _ h rfl | simp_all)
                          replace own4 := own4.updS U50 n47
                          replace own7 := N50
                          replace rdc := rdc.updS U50 nc7
                          replace rd1 := rd1.updS U50 (lt_rd1.imp_right fun h k hk hs => by have := h k hk; have := (Own.ge own7_o hs).1; omega)
                          replace h_b44 := U50.get h_b44 (fun h => na_own7_b44 _ h rfl)
                          replace h_b49 := U50.get h_b49 (fun h => na_own7_b49 _ h rfl)
                          replace hF := hF.go U50 (fun i h hs => by first | exact hs | exact .inl hs | exact .inr hs | (have := (Own.ge own7_o hs).1; omega))
                          clear own7_o
                          rw [rows_append] at own7
                          try simp only [List.nil_append] at own7
                          obtain ⟨A50, c50, rfl⟩ := Own.open Gs.encC own7
                          refine opv_run (fieldAt_eq (off := 1) (by kernel_rfl)) ?_
                          refine store1_intro (by kernel_rfl) rfl rfl h_b26 (by first | exact Nat.le_of_ble_eq_true rfl | (simp; done) | omega | (simp [vals_length, *]; done) | (simp [vals_length, *]; omega)) (by first | (simp [vals_set]; rfl) | rfl) (fun w51 N51 _ U51 => ?_)
                          replace own4 := own4.upd1 U51 na_own4_b26
                          replace own7 := own7.upd1 U51 (by first | assumption | exact Own.ne_blk own7 (by assumption) (by decide) | exact Own.not_loop own7 (by assumption) (by assumption) | exact Own.not_def own7 (by assumption) | exact Own.not_loop own7 (by assumption) (lp3 _))
                          replace rdc := rdc.upd1 U51 na_rdc_b26
                          replace rd1 := rd1.upd1 U51 na_rd1_b26
                          replace h_b1 := U51.get1 h_b1 ne_b1_b26
                          replace h_b20 := U51.get1 h_b20 ne_b20_b26
                          replace h_b44 := U51.get1 h_b44 (Ne.symm ne_b26_b44)
                          replace h_b49 := U51.get1 h_b49 (Ne.symm ne_b26_b49)
                          replace h_b26 := N51
                          replace hF := hF.go1 U51 ge_b26
                          first | refine opv_run (add_i64 _ (by omega)) ?_ | refine opv_run (addI _ _ _ _) ?_
                          exact ⟨⟨_, _, _, _, (by first | exact congrArg (Value.int .i64) (show _ = ((j + m81 : Nat) : Int) by omega) | rfl), (Gs.preC_step hC (Gs.hd_on hx41 (by assumption)) hc1), (by omega), (hxw.snoc hc4), (by simp only [List.length_append, List.length_cons, List.length_nil]; omega), h_b1, h_b20, (by rw [List.length_append]; exact h_b26), own4, own7, (by assumption), (by assumption), rdc, rd1, hF⟩, Gs.cnt_up (by first | rfl | exact g5) rfl (by omega) (by omega)⟩
                      · refine pickt ?_
                        refine condf ?_
                        refine hJ4 _ _ ?_
                        exact ⟨_, _, _, _, (by first | exact g5 | rfl), (Gs.preC_end hC (by first | exact Gs.hd_no (by omega) | exact Gs.hd_17 hx41 (by first | assumption | exact Classical.not_not.1 (by assumption)))), hij, hxw, h_b1, h_b20, h_b26, own4, own7, n47, nc7, rdc, rd1, hF⟩
                    · refine gdft ?_
                      refine gdft ?_
                      refine gdft ?_
                      refine gdft ?_
                      refine gdft ?_
                      refine pickf ?_
                      refine condf ?_
                      refine hJ4 _ _ ?_
                      exact ⟨_, _, _, _, (by first | exact g5 | rfl), (Gs.preC_end hC (by first | exact Gs.hd_no (by omega) | exact Gs.hd_17 hx41 (by first | assumption | exact Classical.not_not.1 (by assumption)))), hij, hxw, h_b1, h_b20, h_b26, own4, own7, n47, nc7, rdc, rd1, hF⟩
                · obtain ⟨j, xs, A7, c7, g5, hcf, hij, hxw, h_b1, h_b20, h_b26, own4, own7, n47, nc7, rdc, rd1, hF⟩ := hI
                  try rw [g5]
                  have hit : Gs.itemF (bs.drop i) = .ok ((p, xs), bs.drop j) := by rw [hI, hcf]; rfl
                  have hji := Gs.itemF_len (Gs.drop_ne hii) hit
                  rw [List.length_drop, List.length_drop] at hji
                  have hcg2 := Gs.clB_ge (y := (⟨p, A7, c7, xs⟩ : Gs.It)) (n := xs.length) (c := c7) hcg own7
                  replace rdc := rdc.snoc (x := (⟨p, A7, c7, xs⟩ : Gs.It)) own7.rdS
                  replace hcs := Gs.clB_own (y := (⟨p, A7, c7, xs⟩ : Gs.It)) (n := xs.length) (c := c7) hcs n47
                  replace hc2 := Gs.clB_ne (y := (⟨p, A7, c7, xs⟩ : Gs.It)) (n := xs.length) (c := c7) hc2 (fun h => Own.ne_blk own7 h_b1 (by decide) _ h rfl)
                  replace hc4 := Gs.clB_ne (y := (⟨p, A7, c7, xs⟩ : Gs.It)) (n := xs.length) (c := c7) hc4 (fun h => Own.ne_blk own7 h_b20 (by decide) _ h rfl)
                  refine opv_run (fieldAt_eq (off := 3) (by kernel_rfl)) ?_
                  refine opv_run (ldC (by kernel_rfl) h_b20 (by rfl)) ?_
                  refine opv_run (ldA (n := 2) (cs' := (Gs.ie ⟨p, A7, c7, xs⟩).toArray) (by kernel_rfl) h_b26 (by first | exact Nat.le_of_ble_eq_true rfl | (simp; done) | omega) (by rfl)) ?_
                  refine buildSlice_intro (e := 65) (m := 2) (z := #[.int .i64 0, .slice none 0 0]) (by kernel_rfl) (by kernel_rfl) (by rfl) (by decide) (by first | (simp [fillL, splice, repL, Value.cells, Gs.cv, Gs.ie]; done) | (simp [fillL, splice, repL, Value.cells, Gs.cv, Gs.ie]; rfl)) (fun b52 w52 e52 h_b52 _ U52 => ?_)
                  have ne_b1_b52 : b1 ≠ b52 := by have := lt_get h_b1; omega
                  have ne_b20_b52 : b20 ≠ b52 := by have := lt_get h_b20; omega
                  have ne_b26_b52 : b26 ≠ b52 := by have := lt_get h_b26; omega
                  have na_own4_b52 := own4.apart e52
                  have na_own7_b52 := own7.apart e52
                  have na_rdc_b52 := rdc.apart e52
                  have na_rd1_b52 := rd1.apart e52
                  have ge_b52 : w.heap.size ≤ b52 := by have := hF.size; omega
                  replace own4 := own4.upd0 U52
                  replace own7 := own7.upd0 U52
                  replace rdc := rdc.upd0 U52
                  replace rd1 := rd1.upd0 U52
                  replace h_b1 := U52.get0 h_b1
                  replace h_b20 := U52.get0 h_b20
                  replace h_b26 := U52.get0 h_b26
                  replace hF := hF.go0 U52
                  clear e52
                  refine app_introA (e := 65) (size := 2) (bytes := 32) (by kernel_rfl) own4 (show Rd _ (some ⟨b52, 0, none⟩) (rows Gs.ie [⟨p, A7, c7, xs⟩]) from Rd.of_blockL h_b52) (by first | exact rows_len Gs.encIt _ | (rw [rows_len Gs.encIt]; omega)) (rows_one Gs.encIt _) (by rw [rows_len Gs.encIt, rows_len Gs.encIt]; try simp only [List.length_nil, List.length_cons, List.length_take, List.length_append]; omega) (by have := hF.size; omega) (fun v53 w53 N53 hA53 U53 => ?_)
                  have own4_o := own4
                  have nb53_own7 := ap_own (S' := w52) (fun k hk hs => n47 k hs hk) own7 hA53
                  have nb53_rdc := Gs.ap_rdc (S' := w52) hcs rdc hA53
                  replace h_b1 := U53.get h_b1 (fun h => by first | (have := Own.ge own4_o h; omega) | exact Own.ne_blk own4_o h_b1 (by decide) _ h rfl | exact Own.not_loop own4_o h_b1 (by assumption) _ h rfl | exact Own.not_def own4_o h_b1 _ h rfl | simp_all)
                  replace h_b20 := U53.get h_b20 (fun h => by first | (have := Own.ge own4_o h; omega) | exact Own.ne_blk own4_o h_b20 (by decide) _ h rfl | exact Own.not_loop own4_o h_b20 (by assumption) _ h rfl | exact Own.not_def own4_o h_b20 _ h rfl | simp_all)
                  replace h_b26 := U53.get h_b26 (fun h => na_own4_b26 _ h rfl)
                  replace own4 := N53
                  replace own7 := own7.updS U53 (fun k hk hs => n47 k hs hk)
                  replace rdc := rdc.updS U53 hcs
                  replace rd1 := rd1.updS U53 (lt_rd1.imp_right fun h k hk hs => by have := h k hk; have := (Own.ge own4_o hs).1; omega)
                  replace h_b52 := U53.get h_b52 (fun h => na_own4_b52 _ h rfl)
                  replace hF := hF.go U53 (fun i h hs => by first | exact hs | exact .inl hs | exact .inr hs | (have := (Own.ge own4_o hs).1; omega))
                  clear own4_o
                  rw [rows_append] at own4
                  try simp only [List.nil_append] at own4
                  obtain ⟨A53, c53, rfl⟩ := Own.open Gs.encIt own4
                  refine opv_run (fieldAt_eq (off := 3) (by kernel_rfl)) ?_
                  refine store1_intro (by kernel_rfl) rfl rfl h_b20 (by first | exact Nat.le_of_ble_eq_true rfl | (simp; done) | omega | (simp [vals_length, *]; done) | (simp [vals_length, *]; omega)) (by first | (simp [vals_set]; rfl) | rfl) (fun w54 N54 _ U54 => ?_)
                  replace own4 := own4.upd1 U54 (by first | assumption | exact Own.ne_blk own4 (by assumption) (by decide) | exact Own.not_loop own4 (by assumption) (by assumption) | exact Own.not_def own4 (by assumption) | exact Own.not_loop own4 (by assumption) (lp3 _))
                  replace own7 := own7.upd1 U54 (by first | assumption | exact Own.ne_blk own7 (by assumption) (by decide) | exact Own.not_loop own7 (by assumption) (by assumption) | exact Own.not_def own7 (by assumption) | exact Own.not_loop own7 (by assumption) (lp3 _))
                  replace rdc := rdc.upd1 U54 (by assumption)
                  replace rd1 := rd1.upd1 U54 na_rd1_b20
                  replace h_b1 := U54.get1 h_b1 ne_b1_b20
                  replace h_b26 := U54.get1 h_b26 (Ne.symm ne_b20_b26)
                  replace h_b52 := U54.get1 h_b52 (Ne.symm ne_b20_b52)
                  replace h_b20 := N54
                  replace hF := hF.go1 U54 ge_b20
                  exact ⟨⟨_, _, _, _, (by first | exact g5 | rfl), (by omega), (by rw [Gs.its_snoc]; exact Gs.preI_step hinv (Gs.drop_ne hii) hit), (by simp only [List.length_append, List.length_cons, List.length_nil]; omega), h_b1, (by rw [List.length_append]; exact h_b20), own4, rdc, hcg2, (by assumption), (hiw.snoc (x := (⟨p, A7, c7, xs⟩ : Gs.It)) hxw), hc2, hc4, rd1, hF⟩, Gs.cnt_up (by first | rfl | exact g5) (by first | exact g5 | rfl) (by omega) (by omega)⟩
            · refine condf ?_
              refine hJ1 _ _ ?_
              exact ⟨_, _, _, (Gs.preI_end hinv (List.drop_eq_nil_of_le (by omega))), h_b1, h_b20, own4, rdc, hcg, hiw, hc2, hF⟩
        · obtain ⟨l, A4, c4, hfin, h_b1, h_b20, own4, rdc, hcg, hiw, hc2, hF⟩ := hI
          refine opv_run (ldA (n := 4) (cs' := #[.int .u8 x14, .bool false, .int .i64 (Gs.decodeM x15 x16), .slice A4 l.length c4]) (by kernel_rfl) h_b20 (by first | exact Nat.le_of_ble_eq_true rfl | (simp; done) | omega) (by rfl)) ?_
          refine store_intro (n := 4) (cs' := #[.int .u8 x14, .bool false, .int .i64 (Gs.decodeM x15 x16), .slice A4 l.length c4]) (by kernel_rfl) (by rfl) (by first | rfl | (simp [Value.cells, Value.oneCell', Gs.cv, Gs.ie]; done)) h_b1 (by first | exact Nat.le_of_ble_eq_true rfl | (simp; done) | omega) (by rfl) (fun w55 N55 _ U55 => ?_)
          replace own4 := own4.upd1 U55 (by first | assumption | exact Own.ne_blk own4 (by assumption) (by decide) | exact Own.not_loop own4 (by assumption) (by assumption) | exact Own.not_def own4 (by assumption) | exact Own.not_loop own4 (by assumption) (lp3 _))
          replace rdc := rdc.upd1 U55 (by assumption)
          replace h_b20 := U55.get1 h_b20 (Ne.symm ne_b1_b20)
          replace h_b1 := N55
          replace hF := hF.go1 U55 ge_b1
          refine ldv_run (ldA (n := 4) (by kernel_rfl) h_b1 (by first | exact Nat.le_of_ble_eq_true rfl | simp | omega) (by rfl)) ?_
          first | exact ⟨_, rfl, ⟨x9, true, 0, []⟩, [], none, 0, by unfold Gs.inbV; rw [Gs.inbF_1 hx9 (by omega)], rfl, by rw [Gs.inbF_1 hx9 (by omega)]; rfl, Rd.nil _ _, Gs.Cl.nil _, (fun _ h => by cases h), .inl rfl, .inl rfl, hbs.get hx9, hF⟩ | exact ⟨_, rfl, Gs.zinb, [], none, 0, by unfold Gs.inbV; rw [Gs.inbF_02 (by omega)], rfl, by rw [Gs.inbF_02 (by omega)]; rfl, Rd.nil _ _, Gs.Cl.nil _, (fun _ h => by cases h), .inl rfl, .inl rfl, by decide, hF⟩ | exact ⟨_, rfl, Gs.zinb, [], none, 0, by unfold Gs.inbV; rw [Gs.inbF_3e hya hyb hyc (Gs.preI_err hinv (Gs.drop_ne (by omega)) (Gs.ri_20 hx28 (by assumption) (by omega)))], rfl, by rw [Gs.inbF_3e hya hyb hyc (Gs.preI_err hinv (Gs.drop_ne (by omega)) (Gs.ri_20 hx28 (by assumption) (by omega)))]; rfl, Rd.nil _ _, Gs.Cl.nil _, (fun _ h => by cases h), .inl rfl, .inl rfl, by decide, hF⟩ | exact ⟨_, rfl, Gs.zinb, [], none, 0, by unfold Gs.inbV; rw [Gs.inbF_3e hya hyb hyc (Gs.preI_err hinv (Gs.drop_ne hii) (by rw [hI, Gs.preC_err hC (Gs.hd_on hx41 (by assumption)) (hc81.resolve_left (fun h => absurd h.1 (by assumption))).2]; rfl))], rfl, by rw [Gs.inbF_3e hya hyb hyc (Gs.preI_err hinv (Gs.drop_ne hii) (by rw [hI, Gs.preC_err hC (Gs.hd_on hx41 (by assumption)) (hc81.resolve_left (fun h => absurd h.1 (by assumption))).2]; rfl))]; rfl, Rd.nil _ _, Gs.Cl.nil _, (fun _ h => by cases h), .inl rfl, .inl rfl, by decide, hF⟩ | exact ⟨_, rfl, ⟨x14, false, Gs.decodeM x15 x16, Gs.its l⟩, l, A4, c4, by unfold Gs.inbV; rw [Gs.inbF_3k hx14 hx15 hx16 hfin], rfl, by rw [Gs.inbF_3k hx14 hx15 hx16 hfin]; rfl, own4.rdS, rdc, hiw, .inr (fun k hk => (own4.geb k hk).1), .inr hcg, hbs.get hx14, hF⟩

end Go.Proofs.YtkjkmahpkfbbnaaDoor
