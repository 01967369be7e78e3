/-
  Contracts of functions of the program, walked over their shallow forms. No condition but the ones that each states.
-/
import Derived.Test.YtjdoakbadehicaaGreatDoorGa
import Derived.Test.YtjdoakbadehicaaGreatDoorGramMem
namespace Go.Proofs.YtjdoakbadehicaaGreatDoor
open Go Go.Sh
set_option linter.unusedVariables false
set_option maxRecDepth 100000


/-- (*greenscreen/grammar.reader).next -/
theorem c_rd_next {br B : Nat} {bs : List Int} {w : World} (rdr : Rdr 152 B w br bs) (hB : B ≤ w.heap.size) (hbd : bs.length ≤ 100000) :
    Calls Tryz.prog 95 #[.pointer (some ⟨br, 0, none⟩)] w fun e w' => (∃ v, e = .returned v ∧ ∃ (y : Int) (r : List Int), Gs.nextF bs = .ok (y, r) ∧ v = .int .u8 y ∧ Rdr 152 B w' br r ∧ (0 ≤ y ∧ y ≤ 255) ∧ Upd (· = br) w w') ∨ ∃ x, e = .panicked (flt 149 x) ∧ Gs.nextF bs = .error x ∧ Upd (· = br) w w' := by
  refine F95.calls ?_
  unfold F95
  have hlt := rdr.lt
  have hbs := rdr.bs
  obtain ⟨A, cp, h_br, rd1, hcp, _, _, hsep⟩ := id rdr
  have na1 : vals .u8 bs = [] ∨ ∀ k, blkOf A k → k ≠ br := hsep.imp (fun e => by rw [e]; rfl) (fun h k hk => (h k hk).2)
  have lt_h_br := lt_get h_br
  have lt_rd1 := rd1.lt
  have hF : Upd (· = br) w w := Fr.refl _ _ _
  refine join_cut (fun g w' => (bs ≠ []) ∧ (w'.heap[br]? = some (.cells #[.slice A bs.length cp] 152 (0, 0))) ∧ (Rd w' A (vals .u8 bs)) ∧ (Upd (· = br) w w')) (fun J1 hJ1 => ?_) (fun gJ1 wJ1 hI => ?_)
  · refine nilckp ?_
    refine opv_run (fieldAt_eq (off := 0) (by kernel_rfl)) ?_
    refine opv_run (ldC (by kernel_rfl) h_br (by rfl)) ?_
    refine opv_run (len_sl (by kernel_rfl) _ _ _) ?_
    refine opv_dec (eqI _ _ _ _ _) (fun h1 => ?_) (fun h1 => ?_)
    · refine condt ?_
      refine opv_run (build_eq (l := [(0, 1)]) (z := #[.int .i64 0]) (by kernel_rfl) (by first | (simp [fillL, splice, repL, Value.cells, Gs.cv, Gs.ie]; done) | (simp [fillL, splice, repL, Value.cells, Gs.cv, Gs.ie]; rfl))) ?_
      refine opv_run (mkIface (by kernel_rfl)) ?_
      refine panic_i ?_
      exact .inr ⟨20, rfl, by rw [show bs = [] from List.length_eq_zero_iff.1 (by omega)]; rfl, hF⟩
    · refine condf ?_
      refine hJ1 _ _ ?_
      exact ⟨(fun e => by subst e; exact absurd rfl (by assumption)), h_br, rd1, hF⟩
  · obtain ⟨hne, h_br, rd1, hF⟩ := hI
    have hlp := List.length_pos_iff.2 hne
    refine nilckp ?_
    refine opv_run (fieldAt_eq (off := 0) (by kernel_rfl)) ?_
    refine opv_run (ldC (by kernel_rfl) h_br (by rfl)) ?_
    refine idx_int (by kernel_rfl) (by kernel_rfl) rd1 (by first | rfl | assumption | omega | (simp; done) | (simp [vals_length, *]; done) | (simp [vals_length] at *; omega)) (by omega) (by omega) (fun x2 hx2 => ?_)
    try simp only [Int.toNat_natCast] at hx2
    refine nilckp ?_
    refine opv_run (fieldAt_eq (off := 0) (by kernel_rfl)) ?_
    refine opv_run (ldC (by kernel_rfl) h_br (by rfl)) ?_
    refine sliceLo1 (by kernel_rfl) rd1 (by first | rfl | assumption | omega | (simp [vals_length, *]; done)) (by omega) (by omega) (by assumption) (fun A3 rd3 hA3 => ?_)
    have na2 : vals .u8 (bs.drop (1 : Int).toNat) = [] ∨ ∀ k, blkOf A3 k → k ≠ br := na1.imp (fun e => by rw [show bs = [] from List.map_eq_nil_iff.1 e]; rfl) (fun h k hk => h k (hA3 k hk))
    refine nilckp ?_
    refine opv_run (fieldAt_eq (off := 0) (by kernel_rfl)) ?_
    refine store1_intro (by kernel_rfl) rfl rfl h_br (by first | exact Nat.le_of_ble_eq_true rfl | (simp; done) | omega | (simp [vals_length, *]; done) | (simp [vals_length, *]; omega)) (by first | (simp [vals_set]; rfl) | rfl) (fun w4 N4 _ U4 => ?_)
    replace rd1 := rd1.upd1 U4 (by assumption)
    replace rd3 := rd3.upd1 U4 (by assumption)
    replace h_br := N4
    replace hF := hF.go U4 (fun i _ h => h)
    exact .inl ⟨_, rfl, x2, bs.drop 1, Gs.nextF_ok hx2, rfl, ⟨_, _, by rw [List.length_drop]; exact h_br, rd3, by rw [List.length_drop]; omega, fun x hx => hbs x (List.mem_of_mem_drop hx), hlt, hsep.imp (fun e => by rw [e]; rfl) (fun h k hk => h k (hA3 k hk))⟩, hbs.get hx2, hF⟩

/-- (*greenscreen/grammar.reader).place -/
theorem c_rd_place {br B : Nat} {bs : List Int} {w : World} (rdr : Rdr 152 B w br bs) (hB : B ≤ w.heap.size) (hbd : bs.length ≤ 100000) :
    Calls Tryz.prog 96 #[.pointer (some ⟨br, 0, none⟩)] w fun e w' => (∃ v, e = .returned v ∧ ∃ (y : Int) (r : List Int), Gs.placeF bs = .ok (y, r) ∧ v = .int .i64 y ∧ Rdr 152 B w' br r ∧ Upd (· = br) w w') ∨ ∃ x, e = .panicked (flt 149 x) ∧ Gs.placeF bs = .error x ∧ Upd (· = br) w w' := by
  refine F96.calls ?_
  unfold F96
  have hlt := rdr.lt
  have hbs := rdr.bs
  have lt_rdr := rdr.lt
  have hF : Upd (· = br) w w := Fr.refl _ _ _
  refine callF_pan (c_rd_next rdr hB hbd) (fun v1 w1 D1 => ?_) (fun x1 w1 E1 => ?_)
  · obtain ⟨y5, r5, hn5, rfl, N1, hy5, U1⟩ := D1
    replace rdr := N1
    have hle5 : r5.length ≤ 100000 := by have := congrArg List.length (Gs.nextF_bs hn5); simp only [List.length_cons] at this; omega
    replace hF := hF.go U1 (fun i h e => e)
    refine callF_pan (c_rd_next rdr (by have := hF.size; omega) hle5) (fun v2 w2 D2 => ?_) (fun x2 w2 E2 => ?_)
    · obtain ⟨y8, r8, hn8, rfl, N2, hy8, U2⟩ := D2
      replace rdr := N2
      have hle8 : r8.length ≤ 100000 := by have := congrArg List.length (Gs.nextF_bs hn8); simp only [List.length_cons] at this; omega
      replace hF := hF.go U2 (fun i h e => e)
      refine callF_val (c_addr_Decode hy5 hy8) (fun w3 U3 => ?_)
      replace rdr := rdr.upd0 U3
      replace hF := hF.go0 U3
      exact .inl ⟨_, rfl, _, r8, by rw [Gs.nextF_bs hn5, Gs.nextF_bs hn8]; rfl, rfl, rdr, hF⟩
    · obtain ⟨he2, U2⟩ := E2
      replace hF := hF.go U2 (fun i h e => e)
      first | (obtain ⟨rfl, rfl⟩ := Gs.nextF_no he2; exact .inr ⟨_, rfl, rfl, hF⟩) | (have e1 := Gs.nextF_bs hn5; obtain ⟨rfl, rfl⟩ := Gs.nextF_no he2; subst e1; exact .inr ⟨_, rfl, rfl, hF⟩)
  · obtain ⟨he1, U1⟩ := E1
    replace hF := hF.go U1 (fun i h e => e)
    first | (obtain ⟨rfl, rfl⟩ := Gs.nextF_no he1; exact .inr ⟨_, rfl, rfl, hF⟩) | (have e1 := Gs.nextF_bs hn5; obtain ⟨rfl, rfl⟩ := Gs.nextF_no he1; subst e1; exact .inr ⟨_, rfl, rfl, hF⟩)

/-- (*greenscreen/grammar.reader).cell -/
theorem c_rd_cell {br B : Nat} {bs : List Int} {w : World} (rdr : Rdr 152 B w br bs) (hB : B ≤ w.heap.size) (hbd : bs.length ≤ 100000) :
    Calls Tryz.prog 160 #[.pointer (some ⟨br, 0, none⟩)] w fun e w' => (∃ v, e = .returned v ∧ ∃ (y : Gs.Cell) (r : List Int), Gs.cellF bs = .ok (y, r) ∧ v = .agg (Gs.cv y).toArray ∧ Rdr 152 B w' br r ∧ (0 ≤ y.b ∧ y.b ≤ 255) ∧ Upd (· = br) w w') ∨ ∃ x, e = .panicked (flt 149 x) ∧ Gs.cellF bs = .error x ∧ Upd (· = br) w w' := by
  refine F160.calls ?_
  unfold F160
  have hlt := rdr.lt
  have hbs := rdr.bs
  have lt_rdr := rdr.lt
  have hF : Upd (· = br) w w := Fr.refl _ _ _
  refine alloc_intro (cs := (Gs.cv Gs.zc).toArray) (by kernel_rfl) (fun b1 w1 e1 h_b1 _ U1 => ?_)
  have ge_b1 : w.heap.size ≤ b1 := by have := hF.size; omega
  replace rdr := rdr.upd0 U1
  replace hF := hF.go0 U1
  clear e1
  refine callF_pan (c_rd_next rdr (by have := hF.size; omega) hbd) (fun v2 w2 D2 => ?_) (fun x2 w2 E2 => ?_)
  · obtain ⟨y5, r5, hn5, rfl, N2, hy5, U2⟩ := D2
    replace rdr := N2
    have hle5 : r5.length ≤ 100000 := by have := congrArg List.length (Gs.nextF_bs hn5); simp only [List.length_cons] at this; omega
    replace h_b1 := U2.get h_b1 (show ¬ b1 = br by omega)
    replace hF := hF.go U2 (fun i h e => e)
    refine callF_bool (c_order_Plain) (fun w3 U3 h3 => ?_) (fun w3 U3 h3 => ?_)
    · replace rdr := rdr.upd0 U3
      replace h_b1 := U3.get0 h_b1
      replace hF := hF.go0 U3
      try simp only [decide_eq_true_eq, decide_eq_false_iff_not] at h3
      refine condt ?_
      refine opv_run (build_eq (l := [(0, 1), (1, 1), (2, 1), (3, 1), (4, 1)]) (z := #[.int .u8 0, .bool false, .bool false, .int .u8 0, .int .u8 0]) (cs := Gs.cv ⟨y5, false, false, 0, 0⟩) (by kernel_rfl) (by rfl)) ?_
      refine store_intro (n := 5) (cs' := (Gs.cv ⟨y5, false, false, 0, 0⟩).toArray) (by kernel_rfl) (by rfl) (by first | rfl | (simp [Value.cells, Value.oneCell', Gs.cv, Gs.ie]; done)) h_b1 (by first | exact Nat.le_of_ble_eq_true rfl | (simp; done) | omega) (by rfl) (fun w5 N5 _ U5 => ?_)
      replace rdr := rdr.upd U5 (fun k hk (e : k = b1) => by omega)
      replace h_b1 := N5
      replace hF := hF.go1 U5 ge_b1
      refine ldv_run (ldA (n := 5) (by kernel_rfl) h_b1 (by first | exact Nat.le_of_ble_eq_true rfl | simp | omega) (by rfl)) ?_
      first | exact .inl ⟨_, rfl, ⟨y5, false, false, 0, 0⟩, r5, by rw [Gs.nextF_bs hn5]; exact Gs.cellF_p (by assumption) _, rfl, rdr, hy5, hF⟩ | exact .inl ⟨_, rfl, ⟨y15, true, false, 0, 0⟩, r15, by rw [Gs.nextF_bs hn5, h8, Gs.nextF_bs hn15, Gs.cellF_8, if_neg (by assumption)], rfl, rdr, hy15, hF⟩
    · replace rdr := rdr.upd0 U3
      replace h_b1 := U3.get0 h_b1
      replace hF := hF.go0 U3
      try simp only [decide_eq_true_eq, decide_eq_false_iff_not] at h3
      refine condf ?_
      refine join_cut (fun g w' => (y5 = 8) ∧ (Rdr 152 B w' br r5) ∧ (w'.heap[b1]? = some (.cells (Gs.cv Gs.zc).toArray 37 (0, 0))) ∧ (Upd (· = br) w w')) (fun J1 hJ1 => ?_) (fun gJ1 wJ1 hI => ?_)
      · refine opv_dec (neI _ _ _ _ _) (fun h7 => ?_) (fun h7 => ?_)
        · refine condt ?_
          refine opv_run (build_eq (l := [(0, 1)]) (z := #[.int .i64 0]) (by kernel_rfl) (by first | (simp [fillL, splice, repL, Value.cells, Gs.cv, Gs.ie]; done) | (simp [fillL, splice, repL, Value.cells, Gs.cv, Gs.ie]; rfl))) ?_
          refine opv_run (mkIface (by kernel_rfl)) ?_
          refine panic_i ?_
          first | exact .inr ⟨_, rfl, by rw [Gs.nextF_bs hn5]; exact Gs.cellF_21 (by assumption) (by assumption), hF⟩ | (obtain ⟨rfl, rfl⟩ := Gs.nextF_no he0; exact .inr ⟨_, rfl, rfl, hF⟩) | exact .inr ⟨_, rfl, by rw [Gs.nextF_bs hn5, h8]; exact Gs.cellF_8err he0, hF⟩ | exact .inr ⟨_, rfl, by rw [Gs.nextF_bs hn5, h8, Gs.nextF_bs hn15, Gs.cellF_8, if_pos (by assumption)], hF⟩
        · refine condf ?_
          refine hJ1 _ _ ?_
          exact ⟨(by omega), rdr, h_b1, hF⟩
      · obtain ⟨h8, rdr, h_b1, hF⟩ := hI
        refine join_cut (fun g w' => ∃ (y15 : Int) (r15 : List Int), (Gs.nextF r5 = .ok (y15, r15)) ∧ (0 ≤ y15 ∧ y15 ≤ 255) ∧ (g 3 = .int .u8 y15) ∧ (¬ y15 < 64) ∧ (Rdr 152 B w' br r15) ∧ (w'.heap[b1]? = some (.cells (Gs.cv Gs.zc).toArray 37 (0, 0))) ∧ (Upd (· = br) w w')) (fun J2 hJ2 => ?_) (fun gJ2 wJ2 hI => ?_)
        · refine callF_pan (c_rd_next rdr (by have := hF.size; omega) hle5) (fun v8 w8 D8 => ?_) (fun x8 w8 E8 => ?_)
          · obtain ⟨y15, r15, hn15, rfl, N8, hy15, U8⟩ := D8
            replace rdr := N8
            have hle15 : r15.length ≤ 100000 := by have := congrArg List.length (Gs.nextF_bs hn15); simp only [List.length_cons] at this; omega
            replace h_b1 := U8.get h_b1 (show ¬ b1 = br by omega)
            replace hF := hF.go U8 (fun i h e => e)
            refine opv_dec (lss _ _ _ _) (fun h9 => ?_) (fun h9 => ?_)
            · refine condt ?_
              refine opv_run (build_eq (l := [(0, 1)]) (z := #[.int .i64 0]) (by kernel_rfl) (by first | (simp [fillL, splice, repL, Value.cells, Gs.cv, Gs.ie]; done) | (simp [fillL, splice, repL, Value.cells, Gs.cv, Gs.ie]; rfl))) ?_
              refine opv_run (mkIface (by kernel_rfl)) ?_
              refine panic_i ?_
              first | exact .inr ⟨_, rfl, by rw [Gs.nextF_bs hn5]; exact Gs.cellF_21 (by assumption) (by assumption), hF⟩ | (obtain ⟨rfl, rfl⟩ := Gs.nextF_no he0; exact .inr ⟨_, rfl, rfl, hF⟩) | exact .inr ⟨_, rfl, by rw [Gs.nextF_bs hn5, h8]; exact Gs.cellF_8err he0, hF⟩ | exact .inr ⟨_, rfl, by rw [Gs.nextF_bs hn5, h8, Gs.nextF_bs hn15, Gs.cellF_8, if_pos (by assumption)], hF⟩
            · refine condf ?_
              refine hJ2 _ _ ?_
              exact ⟨_, _, hn15, hy15, (by first | exact g3 | rfl), (by assumption), rdr, h_b1, hF⟩
          · obtain ⟨he8, U8⟩ := E8
            replace hF := hF.go U8 (fun i h e => e)
            first | exact .inr ⟨_, rfl, by rw [Gs.nextF_bs hn5]; exact Gs.cellF_21 (by assumption) (by assumption), hF⟩ | (obtain ⟨rfl, rfl⟩ := Gs.nextF_no he8; exact .inr ⟨_, rfl, rfl, hF⟩) | exact .inr ⟨_, rfl, by rw [Gs.nextF_bs hn5, h8]; exact Gs.cellF_8err he8, hF⟩ | exact .inr ⟨_, rfl, by rw [Gs.nextF_bs hn5, h8, Gs.nextF_bs hn15, Gs.cellF_8, if_pos (by assumption)], hF⟩
        · obtain ⟨y15, r15, hn15, hy15, g3, h64, rdr, h_b1, hF⟩ := hI
          try rw [g3]
          refine opv_run (build_eq (l := [(0, 1), (1, 1), (2, 1), (3, 1), (4, 1)]) (z := #[.int .u8 0, .bool false, .bool false, .int .u8 0, .int .u8 0]) (cs := Gs.cv ⟨y15, true, false, 0, 0⟩) (by kernel_rfl) (by rfl)) ?_
          refine store_intro (n := 5) (cs' := (Gs.cv ⟨y15, true, false, 0, 0⟩).toArray) (by kernel_rfl) (by rfl) (by first | rfl | (simp [Value.cells, Value.oneCell', Gs.cv, Gs.ie]; done)) h_b1 (by first | exact Nat.le_of_ble_eq_true rfl | (simp; done) | omega) (by rfl) (fun w11 N11 _ U11 => ?_)
          replace rdr := rdr.upd U11 (fun k hk (e : k = b1) => by omega)
          replace h_b1 := N11
          replace hF := hF.go1 U11 ge_b1
          refine ldv_run (ldA (n := 5) (by kernel_rfl) h_b1 (by first | exact Nat.le_of_ble_eq_true rfl | simp | omega) (by rfl)) ?_
          first | exact .inl ⟨_, rfl, ⟨y5, false, false, 0, 0⟩, r5, by rw [Gs.nextF_bs hn5]; exact Gs.cellF_p (by assumption) _, rfl, rdr, hy5, hF⟩ | exact .inl ⟨_, rfl, ⟨y15, true, false, 0, 0⟩, r15, by rw [Gs.nextF_bs hn5, h8, Gs.nextF_bs hn15, Gs.cellF_8, if_neg (by assumption)], rfl, rdr, hy15, hF⟩
  · obtain ⟨he2, U2⟩ := E2
    replace hF := hF.go U2 (fun i h e => e)
    first | exact .inr ⟨_, rfl, by rw [Gs.nextF_bs hn5]; exact Gs.cellF_21 (by assumption) (by assumption), hF⟩ | (obtain ⟨rfl, rfl⟩ := Gs.nextF_no he2; exact .inr ⟨_, rfl, rfl, hF⟩) | exact .inr ⟨_, rfl, by rw [Gs.nextF_bs hn5, h8]; exact Gs.cellF_8err he2, hF⟩ | exact .inr ⟨_, rfl, by rw [Gs.nextF_bs hn5, h8, Gs.nextF_bs hn15, Gs.cellF_8, if_pos (by assumption)], hF⟩

/-- (*greenscreen/grammar.reader).cells -/
theorem c_rd_cells {br B : Nat} {bs : List Int} {w : World} (rdr : Rdr 152 B w br bs) (hB : B ≤ w.heap.size) (hbd : bs.length ≤ 100000) :
    Calls Tryz.prog 139 #[.pointer (some ⟨br, 0, none⟩)] w fun e w' => (∃ v, e = .returned v ∧ ∃ (y : List Gs.Cell) (r : List Int), Gs.cellsF bs = .ok (y, r) ∧ Own w.heap.size w' 37 5 v (rows Gs.cv y) ∧ Rdr 152 B w' br r ∧ Gs.Cws y ∧ Upd (· = br) w w') ∨ ∃ x, e = .panicked (flt 149 x) ∧ Gs.cellsF bs = .error x ∧ Upd (· = br) w w' := by
  refine F139.calls ?_
  unfold F139
  have hlt := rdr.lt
  have hbs := rdr.bs
  have lt_rdr := rdr.lt
  have hF : Upd (· = br) w w := Fr.refl _ _ _
  refine join_cut (fun g w' => ∃ (v3 : Value) (acc : List Gs.Cell) (cur : List Int), (g 3 = v3) ∧ (Gs.cellsF bs = .ok (acc, cur)) ∧ (Gs.Cws acc) ∧ (Own w.heap.size w' 37 5 v3 (rows Gs.cv acc)) ∧ (Rdr 152 B w' br cur) ∧ (Upd (· = br) w w')) (fun J1 hJ1 => ?_) (fun gJ1 wJ1 hI => ?_)
  · refine loop_intro (fun g w' => ∃ (v3 : Value) (acc : List Gs.Cell) (cur : List Int), (g 3 = v3) ∧ (Gs.cellsF bs = Gs.preC acc (Gs.cellsF cur)) ∧ (Gs.Cws acc) ∧ (acc.length + cur.length ≤ bs.length) ∧ (Own w.heap.size w' 37 5 v3 (rows Gs.cv acc)) ∧ (Rdr 152 B w' br cur) ∧ (Upd (· = br) w w')) (fun g w' => Gs.rdL w' br) ?_ (fun g2 wl2 hI => ?_)
    · exact ⟨_, [], bs, rfl, (Gs.preC_nil _), (fun _ h => by cases h), (by simp), (Own.nil _ _ _ _), rdr, hF⟩
    · obtain ⟨v3, acc, cur, g3, hinv, hcw, hal, own3, rdr, hF⟩ := hI
      try rw [g3]
      have hm0 := Gs.rdr_len rdr
      obtain ⟨Aq, cq, h_br, rdq, hcq, hbq, _, hsq⟩ := id rdr
      refine nilckp ?_
      refine opv_run (fieldAt_eq (off := 0) (by kernel_rfl)) ?_
      refine opv_run (ldC (by kernel_rfl) h_br (by rfl)) ?_
      refine opv_run (len_sl (by kernel_rfl) _ _ _) ?_
      refine opv_dec (gtr _ _ _ _) (fun h1 => ?_) (fun h1 => ?_)
      · refine gdtt ?_
        refine gdtt ?_
        refine nilckp ?_
        refine gdtt ?_
        refine opv_run (fieldAt_eq (off := 0) (by kernel_rfl)) ?_
        refine gdtt ?_
        refine opv_run (ldC (by kernel_rfl) h_br (by rfl)) ?_
        refine gdtt ?_
        refine idx_int (by kernel_rfl) (by kernel_rfl) rdq (by first | rfl | assumption | omega | (simp; done) | (simp [vals_length, *]; done) | (simp [vals_length] at *; omega)) (by omega) (by omega) (fun x2 hx2 => ?_)
        try simp only [Int.toNat_natCast] at hx2
        refine gdtt ?_
        refine opv_dec (neI _ _ _ _ _) (fun h3 => ?_) (fun h3 => ?_)
        · refine pickt ?_
          refine condt ?_
          refine callF_pan (c_rd_cell rdr (by have := hF.size; omega) (by omega)) (fun v4 w4 D4 => ?_) (fun x4 w4 E4 => ?_)
          · obtain ⟨y21, r21, hn21, rfl, N4, hy21, U4⟩ := D4
            replace rdr := N4
            have hle21 : r21.length ≤ 100000 := by have := Gs.cellF_len hn21; omega
            replace own3 := own3.updS U4 (fun k hk (e : k = br) => by have := (Own.ge own3 hk).1; omega)
            replace hF := hF.go U4 (fun i h e => e)
            refine buildSlice_intro (e := 37) (m := 5) (z := #[.int .u8 0, .bool false, .bool false, .int .u8 0, .int .u8 0]) (by kernel_rfl) (by kernel_rfl) (by rfl) (by decide) (by first | (simp [fillL, splice, repL, Value.cells, Gs.cv, Gs.ie]; done) | (simp [fillL, splice, repL, Value.cells, Gs.cv, Gs.ie]; rfl)) (fun b5 w5 e5 h_b5 _ U5 => ?_)
            have na_own3_b5 := own3.apart e5
            have ge_b5 : w.heap.size ≤ b5 := by have := hF.size; omega
            replace own3 := own3.upd0 U5
            replace rdr := rdr.upd0 U5
            replace hF := hF.go0 U5
            clear e5
            refine app_introA (e := 37) (size := 5) (bytes := 5) (by kernel_rfl) own3 (show Rd _ (some ⟨b5, 0, none⟩) (rows Gs.cv [y21]) from Rd.of_blockL h_b5) (by first | exact rows_len Gs.encC _ | (rw [rows_len Gs.encC]; omega)) (rows_one Gs.encC _) (by rw [rows_len Gs.encC, rows_len Gs.encC]; try simp only [List.length_nil, List.length_cons, List.length_take, List.length_append]; omega) (by have := hF.size; omega) (fun v6 w6 N6 hA6 U6 => ?_)
            have own3_o := own3
            have nc6_b5 : ∀ k, ownS v6 k → k ≠ b5 := fun k hk e => Or.elim (hA6 k hk) (fun h => na_own3_b5 k h e) (fun h => by have := lt_get h_b5; omega)
            replace own3 := N6
            replace rdr := rdr.upd U6 (fun k hk hs => by have := (Own.ge own3_o hs).1; omega)
            replace h_b5 := U6.get h_b5 (fun h => na_own3_b5 _ h rfl)
            replace hF := hF.go U6 (fun i h hs => by first | exact hs | exact .inl hs | exact .inr hs | (have := (Own.ge own3_o hs).1; omega))
            clear own3_o
            rw [rows_append] at own3
            try simp only [List.nil_append] at own3
            obtain ⟨A6, c6, rfl⟩ := Own.open Gs.encC own3
            exact ⟨⟨_, acc ++ [y21], r21, (by first | exact g3 | rfl), (Gs.preC_step hinv (Gs.head_on hx2 (by assumption)) hn21), (hcw.snoc hy21), (by have := Gs.cellF_len hn21; simp only [List.length_append, List.length_cons, List.length_nil]; omega), own3, rdr, hF⟩, (by rw [Gs.rdr_len rdr, hm0]; exact Gs.cellF_len hn21)⟩
          · obtain ⟨he4, U4⟩ := E4
            replace hF := hF.go U4 (fun i h e => e)
            exact .inr ⟨_, rfl, Gs.preC_err hinv (Gs.head_on hx2 (by assumption)) he4, hF⟩
        · refine pickt ?_
          refine condf ?_
          refine hJ1 _ _ ?_
          exact ⟨_, _, _, (by first | exact g3 | rfl), (Gs.preC_end hinv (by first | exact .inl (Gs.head_none (by assumption)) | exact .inr ((Gs.head_x hx2).trans (congrArg some (Classical.not_not.1 (by assumption)))))), hcw, own3, rdr, hF⟩
      · refine gdft ?_
        refine gdft ?_
        refine gdft ?_
        refine gdft ?_
        refine gdft ?_
        refine gdft ?_
        refine gdft ?_
        refine pickf ?_
        refine condf ?_
        refine hJ1 _ _ ?_
        exact ⟨_, _, _, (by first | exact g3 | rfl), (Gs.preC_end hinv (by first | exact .inl (Gs.head_none (by assumption)) | exact .inr ((Gs.head_x hx2).trans (congrArg some (Classical.not_not.1 (by assumption)))))), hcw, own3, rdr, hF⟩
  · obtain ⟨v3, acc, cur, g3, hfin, hcw, own3, rdr, hF⟩ := hI
    try rw [g3]
    exact .inl ⟨_, rfl, acc, cur, hfin, own3, rdr, hcw, hF⟩

/-- (*greenscreen/grammar.reader).item -/
theorem c_rd_item {br B : Nat} {bs : List Int} {w : World} (rdr : Rdr 152 B w br bs) (hB : B ≤ w.heap.size) (hbd : bs.length ≤ 100000) (hne : bs ≠ []) :
    Calls Tryz.prog 97 #[.pointer (some ⟨br, 0, none⟩)] w fun e w' => (∃ v, e = .returned v ∧ ∃ (y : Gs.It) (r : List Int), Gs.itemF bs = .ok ((y.at', y.cs), r) ∧ v = .agg (Gs.ie y).toArray ∧ Own w.heap.size w' 37 5 (.slice y.A y.cs.length y.cp) (rows Gs.cv y.cs) ∧ Rdr 152 B w' br r ∧ Gs.Cws y.cs ∧ Upd (· = br) w w') ∨ ∃ x, e = .panicked (flt 149 x) ∧ Gs.itemF bs = .error x ∧ Upd (· = br) w w' := by
  refine F97.calls ?_
  unfold F97
  have hlt := rdr.lt
  have hbs := rdr.bs
  have lt_rdr := rdr.lt
  have hF : Upd (· = br) w w := Fr.refl _ _ _
  refine alloc_intro (cs := #[.int .i64 0, .slice none 0 0]) (by kernel_rfl) (fun b1 w1 e1 h_b1 _ U1 => ?_)
  have ge_b1 : w.heap.size ≤ b1 := by have := hF.size; omega
  replace rdr := rdr.upd0 U1
  replace hF := hF.go0 U1
  clear e1
  refine join_cut (fun g w' => ∃ (p : Int) (cur : List Int), (g 3 = .int .i64 p) ∧ (Gs.itemF bs = Gs.inIt p (Gs.cellsF cur)) ∧ (cur.length ≤ 100000) ∧ (Rdr 152 B w' br cur) ∧ (w'.heap[b1]? = some (.cells #[.int .i64 0, .slice none 0 0] 54 (0, 0))) ∧ (Upd (· = br) w w')) (fun J1 hJ1 => ?_) (fun gJ1 wJ1 hI => ?_)
  · obtain ⟨Aq, cq, h_br, rdq, hcq, hbq, _, hsq⟩ := id rdr
    have hlp := List.length_pos_iff.2 hne
    refine nilckp ?_
    refine opv_run (fieldAt_eq (off := 0) (by kernel_rfl)) ?_
    refine opv_run (ldC (by kernel_rfl) h_br (by rfl)) ?_
    refine idx_int (by kernel_rfl) (by kernel_rfl) rdq (by first | rfl | assumption | omega | (simp; done) | (simp [vals_length, *]; done) | (simp [vals_length] at *; omega)) (by omega) (by omega) (fun x2 hx2 => ?_)
    try simp only [Int.toNat_natCast] at hx2
    refine opv_dec (eqI _ _ _ _ _) (fun h3 => ?_) (fun h3 => ?_)
    · refine condt ?_
      refine callF_pan (c_rd_next rdr (by have := hF.size; omega) hbd) (fun v4 w4 D4 => ?_) (fun x4 w4 E4 => ?_)
      · obtain ⟨y12, r12, hn12, rfl, N4, hy12, U4⟩ := D4
        replace rdr := N4
        have hle12 : r12.length ≤ 100000 := by have := congrArg List.length (Gs.nextF_bs hn12); simp only [List.length_cons] at this; omega
        replace h_b1 := U4.get h_b1 (show ¬ b1 = br by omega)
        replace hF := hF.go U4 (fun i h e => e)
        refine callF_pan (c_rd_place rdr (by have := hF.size; omega) hle12) (fun v5 w5 D5 => ?_) (fun x5 w5 E5 => ?_)
        · obtain ⟨y14, r14, hn14, rfl, N5, U5⟩ := D5
          replace rdr := N5
          have hle14 : r14.length ≤ 100000 := by have := Gs.placeF_len hn14; omega
          replace h_b1 := U5.get h_b1 (show ¬ b1 = br by omega)
          replace hF := hF.go U5 (fun i h e => e)
          refine hJ1 _ _ ?_
          exact ⟨_, _, (by first | exact g3 | rfl), (by first | exact Gs.itemF_at hn12 ((Gs.nextF_head hn12 hx2).trans (by assumption)) hn14 | exact Gs.itemF_no hx2 (by assumption)), (by omega), rdr, h_b1, hF⟩
        · obtain ⟨he5, U5⟩ := E5
          replace hF := hF.go U5 (fun i h e => e)
          first | exact absurd (Gs.nextF_no he5).1 hne | exact .inr ⟨_, rfl, Gs.itemF_perr hn12 ((Gs.nextF_head hn12 hx2).trans (by assumption)) he5, hF⟩ | exact .inr ⟨_, rfl, by rw [hI, he5]; rfl, hF⟩
      · obtain ⟨he4, U4⟩ := E4
        replace hF := hF.go U4 (fun i h e => e)
        first | exact absurd (Gs.nextF_no he4).1 hne | exact .inr ⟨_, rfl, Gs.itemF_perr hn12 ((Gs.nextF_head hn12 hx2).trans (by assumption)) he4, hF⟩ | exact .inr ⟨_, rfl, by rw [hI, he4]; rfl, hF⟩
    · refine condf ?_
      refine hJ1 _ _ ?_
      exact ⟨_, _, (by first | exact g3 | rfl), (by first | exact Gs.itemF_at hn12 ((Gs.nextF_head hn12 hx2).trans (by assumption)) hn14 | exact Gs.itemF_no hx2 (by assumption)), (by omega), rdr, h_b1, hF⟩
  · obtain ⟨p, cur, g3, hI, hcl, rdr, h_b1, hF⟩ := hI
    try rw [g3]
    have qF6 := hF.size
    have q6_h_b1 := lt_get h_b1
    refine callF_pan (c_rd_cells rdr (by have := hF.size; omega) hcl) (fun v6 w6 D6 => ?_) (fun x6 w6 E6 => ?_)
    · obtain ⟨y17, r17, hn17, own17, N6, hy17, U6⟩ := D6
      replace rdr := N6
      have hle17 : r17.length ≤ 100000 := by have := (Gs.cellsF_len hn17).1; omega
      have nx6_h_b1_own17 : ¬ ownS _ b1 := fun h => by have := (Own.ge own17 h).1; omega
      replace own17 := own17.mono (B' := w.heap.size) (by omega)
      replace h_b1 := U6.get h_b1 (show ¬ b1 = br by omega)
      replace hF := hF.go U6 (fun i h e => e)
      obtain ⟨A17, c17, rfl⟩ := Own.open Gs.encC own17
      refine opv_run (build_eq (l := [(0, 1), (1, 1)]) (z := #[.int .i64 0, .slice none 0 0]) (cs := Gs.ie ⟨p, A17, c17, y17⟩) (by kernel_rfl) (by rfl)) ?_
      refine store_intro (n := 2) (cs' := (Gs.ie ⟨p, A17, c17, y17⟩).toArray) (by kernel_rfl) (by rfl) (by first | rfl | (simp [Value.cells, Value.oneCell', Gs.cv, Gs.ie]; done)) h_b1 (by first | exact Nat.le_of_ble_eq_true rfl | (simp; done) | omega) (by rfl) (fun w8 N8 _ U8 => ?_)
      replace rdr := rdr.upd U8 (fun k hk (e : k = b1) => by omega)
      replace own17 := own17.upd1 U8 (by first | assumption | exact Own.ne_blk own17 (by assumption) (by decide) | exact Own.not_loop own17 (by assumption) (by assumption) | exact Own.not_def own17 (by assumption) | exact Own.not_loop own17 (by assumption) (lp3 _))
      replace h_b1 := N8
      replace hF := hF.go1 U8 ge_b1
      refine ldv_run (ldA (n := 2) (by kernel_rfl) h_b1 (by first | exact Nat.le_of_ble_eq_true rfl | simp | omega) (by rfl)) ?_
      exact .inl ⟨_, rfl, ⟨p, A17, c17, y17⟩, r17, by rw [hI, hn17]; rfl, rfl, own17, rdr, hy17, hF⟩
    · obtain ⟨he6, U6⟩ := E6
      replace hF := hF.go U6 (fun i h e => e)
      first | exact absurd (Gs.nextF_no he6).1 hne | exact .inr ⟨_, rfl, Gs.itemF_perr hn12 ((Gs.nextF_head hn12 hx2).trans (by assumption)) he6, hF⟩ | exact .inr ⟨_, rfl, by rw [hI, he6]; rfl, hF⟩

/-- (*greenscreen/grammar.reader).inbound -/
theorem c_rd_inbound {br B : Nat} {bs : List Int} {w : World} (rdr : Rdr 152 B w br bs) (hB : B ≤ w.heap.size) (hbd : bs.length ≤ 100000) :
    Calls Tryz.prog 54 #[.pointer (some ⟨br, 0, none⟩)] w fun e w' => (∃ v, e = .returned v ∧ ∃ (q : Gs.Inb) (l : List Gs.It) (A : Option Addr) (c : Nat), Gs.inbF bs = .ok q ∧ q.items = Gs.its l ∧ v = .agg #[.int .u8 q.aid, .bool q.alone, .int .i64 q.cur, .slice A l.length c] ∧ Rd w' A (rows Gs.ie l) ∧ Gs.Cl w' l ∧ Gs.Iw l ∧ GeA A (rows Gs.ie l) w.heap.size ∧ (∀ k, Gs.clB l k → w.heap.size ≤ k) ∧ (0 ≤ q.aid ∧ q.aid ≤ 255) ∧ Upd (· = br) w w') ∨ ∃ x, e = .panicked (flt 149 x) ∧ Gs.inbF bs = .error x ∧ Upd (· = br) w w' := by
  refine F54.calls ?_
  unfold F54
  have hlt := rdr.lt
  have hbs := rdr.bs
  have lt_rdr := rdr.lt
  have hF : Upd (· = br) w w := Fr.refl _ _ _
  refine alloc_intro (cs := #[.int .u8 0, .bool false, .int .i64 0, .slice none 0 0]) (by kernel_rfl) (fun b1 w1 e1 h_b1 _ U1 => ?_)
  have ge_b1 : w.heap.size ≤ b1 := by have := hF.size; omega
  replace rdr := rdr.upd0 U1
  replace hF := hF.go0 U1
  clear e1
  refine callF_pan (c_rd_next rdr (by have := hF.size; omega) hbd) (fun v2 w2 D2 => ?_) (fun x2 w2 E2 => ?_)
  · obtain ⟨y5, r5, hn5, rfl, N2, hy5, U2⟩ := D2
    replace rdr := N2
    have hle5 : r5.length ≤ 100000 := by have := congrArg List.length (Gs.nextF_bs hn5); simp only [List.length_cons] at this; omega
    replace h_b1 := U2.get h_b1 (show ¬ b1 = br by omega)
    replace hF := hF.go U2 (fun i h e => e)
    refine opv_run (build_eq (l := [(0, 1), (1, 1), (2, 1), (3, 1)]) (z := #[.int .u8 0, .bool false, .int .i64 0, .slice none 0 0]) (cs := [.int .u8 y5, .bool false, .int .i64 0, .slice none 0 0]) (by kernel_rfl) (by rfl)) ?_
    refine alloc_intro (cs := #[.int .u8 0, .bool false, .int .i64 0, .slice none 0 0]) (by kernel_rfl) (fun b4 w4 e4 h_b4 _ U4 => ?_)
    have ne_b1_b4 : b1 ≠ b4 := by have := lt_get h_b1; omega
    have ge_b4 : w.heap.size ≤ b4 := by have := hF.size; omega
    replace rdr := rdr.upd0 U4
    replace h_b1 := U4.get0 h_b1
    replace hF := hF.go0 U4
    clear e4
    refine store_intro (n := 4) (cs' := #[.int .u8 y5, .bool false, .int .i64 0, .slice none 0 0]) (by kernel_rfl) (by rfl) (by first | rfl | (simp [Value.cells, Value.oneCell', Gs.cv, Gs.ie]; done)) h_b4 (by first | exact Nat.le_of_ble_eq_true rfl | (simp; done) | omega) (by rfl) (fun w5 N5 _ U5 => ?_)
    replace rdr := rdr.upd U5 (fun k hk (e : k = b4) => by omega)
    replace h_b1 := U5.get1 h_b1 ne_b1_b4
    replace h_b4 := N5
    replace hF := hF.go1 U5 ge_b4
    obtain ⟨Aq, cq, h_br, rdq, hcq, hbq, _, hsq⟩ := id rdr
    refine nilckp ?_
    refine opv_run (fieldAt_eq (off := 0) (by kernel_rfl)) ?_
    refine opv_run (ldC (by kernel_rfl) h_br (by rfl)) ?_
    refine opv_run (len_sl (by kernel_rfl) _ _ _) ?_
    refine opv_dec (eqI _ _ _ _ _) (fun h6 => ?_) (fun h6 => ?_)
    · refine condt ?_
      refine opv_run (fieldAt_eq (off := 1) (by kernel_rfl)) ?_
      refine store1_intro (by kernel_rfl) rfl rfl h_b4 (by first | exact Nat.le_of_ble_eq_true rfl | (simp; done) | omega | (simp [vals_length, *]; done) | (simp [vals_length, *]; omega)) (by first | (simp [vals_set]; rfl) | rfl) (fun w7 N7 _ U7 => ?_)
      replace rdr := rdr.upd U7 (fun k hk (e : k = b4) => by omega)
      replace h_b1 := U7.get1 h_b1 ne_b1_b4
      replace h_b4 := N7
      replace hF := hF.go1 U7 ge_b4
      refine opv_run (ldA (n := 4) (by kernel_rfl) h_b4 (by first | exact Nat.le_of_ble_eq_true rfl | (simp; done) | omega) (by rfl)) ?_
      refine store_intro (n := 4) (by kernel_rfl) (by rfl) (by first | rfl | (simp [Value.cells, Value.oneCell', Gs.cv, Gs.ie]; done)) h_b1 (by first | exact Nat.le_of_ble_eq_true rfl | (simp; done) | omega) (by first | (simp; rfl) | rfl) (fun w8 N8 _ U8 => ?_)
      replace rdr := rdr.upd U8 (fun k hk (e : k = b1) => by omega)
      replace h_b4 := U8.get1 h_b4 (Ne.symm ne_b1_b4)
      replace h_b1 := N8
      replace hF := hF.go1 U8 ge_b1
      refine ldv_run (ldA (n := 4) (by kernel_rfl) h_b1 (by first | exact Nat.le_of_ble_eq_true rfl | simp | omega) (by rfl)) ?_
      first | exact .inl ⟨_, rfl, ⟨y5, true, 0, []⟩, [], none, 0, Gs.inbF_alone hn5 (List.length_eq_zero_iff.1 (by omega)), rfl, rfl, Rd.nil _ _, Gs.Cl.nil _, (fun _ h => by cases h), .inl rfl, (fun k ⟨x, hx, _⟩ => by cases hx), hy5, hF⟩ | exact .inl ⟨_, rfl, ⟨y5, false, y16, Gs.its l⟩, l, A3, c3, Gs.inbF_ok hn5 (Gs.len_ne (by assumption)) hn16 hfin, rfl, rfl, own3.rdS, rdc, hiw, .inr (fun k hk => (own3.geb k hk).1), hcg, hy5, hF⟩
    · refine condf ?_
      refine callF_pan (c_rd_place rdr (by have := hF.size; omega) hle5) (fun v10 w10 D10 => ?_) (fun x10 w10 E10 => ?_)
      · obtain ⟨y16, r16, hn16, rfl, N10, U10⟩ := D10
        replace rdr := N10
        have hle16 : r16.length ≤ 100000 := by have := Gs.placeF_len hn16; omega
        replace h_b1 := U10.get h_b1 (show ¬ b1 = br by omega)
        replace h_b4 := U10.get h_b4 (show ¬ b4 = br by omega)
        replace hF := hF.go U10 (fun i h e => e)
        refine opv_run (fieldAt_eq (off := 2) (by kernel_rfl)) ?_
        refine store1_intro (by kernel_rfl) rfl rfl h_b4 (by first | exact Nat.le_of_ble_eq_true rfl | (simp; done) | omega | (simp [vals_length, *]; done) | (simp [vals_length, *]; omega)) (by first | (simp [vals_set]; rfl) | rfl) (fun w11 N11 _ U11 => ?_)
        replace rdr := rdr.upd U11 (fun k hk (e : k = b4) => by omega)
        replace h_b1 := U11.get1 h_b1 ne_b1_b4
        replace h_b4 := N11
        replace hF := hF.go1 U11 ge_b4
        refine join_cut (fun g w' => ∃ (l : List Gs.It) (A3 : Option Addr) (c3 : Nat), (Gs.itemsF r16 = .ok (Gs.its l)) ∧ (w'.heap[b1]? = some (.cells #[.int .u8 0, .bool false, .int .i64 0, .slice none 0 0] 48 (0, 0))) ∧ (w'.heap[b4]? = some (.cells #[.int .u8 y5, .bool false, .int .i64 y16, .slice A3 l.length c3] 48 (0, 0))) ∧ (Own w.heap.size w' 54 2 (.slice A3 l.length c3) (rows Gs.ie l)) ∧ (Gs.Cl w' l) ∧ (∀ k, Gs.clB l k → w.heap.size ≤ k) ∧ (Gs.Iw l) ∧ (l = [] ∨ ∀ k, Gs.clB l k → k ≠ b1) ∧ (Upd (· = br) w w')) (fun J1 hJ1 => ?_) (fun gJ1 wJ1 hI => ?_)
        · refine loop_intro (fun g w' => ∃ (l : List Gs.It) (A3 : Option Addr) (c3 : Nat) (cur : List Int), (Gs.itemsF r16 = Gs.preI (Gs.its l) (Gs.itemsF cur)) ∧ (l.length + cur.length ≤ r16.length) ∧ (w'.heap[b1]? = some (.cells #[.int .u8 0, .bool false, .int .i64 0, .slice none 0 0] 48 (0, 0))) ∧ (w'.heap[b4]? = some (.cells #[.int .u8 y5, .bool false, .int .i64 y16, .slice A3 l.length c3] 48 (0, 0))) ∧ (Own w.heap.size w' 54 2 (.slice A3 l.length c3) (rows Gs.ie l)) ∧ (Gs.Cl w' l) ∧ (∀ k, Gs.clB l k → w.heap.size ≤ k) ∧ (l = [] ∨ ∀ k, Gs.clB l k → ¬ ownS (.slice A3 l.length c3) k) ∧ (Gs.Iw l) ∧ (l = [] ∨ ∀ k, Gs.clB l k → k ≠ b1) ∧ (l = [] ∨ ∀ k, Gs.clB l k → k ≠ b4) ∧ (Rdr 152 B w' br cur) ∧ (Upd (· = br) w w')) (fun g w' => Gs.rdL w' br) ?_ (fun g2 wl2 hI => ?_)
          · exact ⟨[], _, _, r16, (Gs.preI_nil _), (by simp), h_b1, h_b4, (Own.nil _ _ _ _), (Gs.Cl.nil _), (fun k ⟨x, hx, _⟩ => by cases hx), (.inl rfl), (fun _ h => by cases h), (.inl rfl), (.inl rfl), rdr, hF⟩
          · obtain ⟨l, A3, c3, cur, hinv, hal, h_b1, h_b4, own3, rdc, hcg, hcs, hiw, hc2, hc3, rdr, hF⟩ := hI
            have hm0 := Gs.rdr_len rdr
            obtain ⟨Aq, cq, h_br, rdq, hcq, hbq, _, hsq⟩ := id rdr
            refine nilckp ?_
            refine opv_run (fieldAt_eq (off := 0) (by kernel_rfl)) ?_
            refine opv_run (ldC (by kernel_rfl) h_br (by rfl)) ?_
            refine opv_run (len_sl (by kernel_rfl) _ _ _) ?_
            refine opv_dec (gtr _ _ _ _) (fun h12 => ?_) (fun h12 => ?_)
            · refine condt ?_
              refine drawn_S (S := fun k => ownS (.slice A3 l.length c3) k ∨ k = br) (fun w13 U13 => ?_)
              replace own3 := own3.upd0 U13
              replace rdc := rdc.upd0 U13
              replace rdr := rdr.upd0 U13
              replace h_b1 := U13.get0 h_b1
              replace h_b4 := U13.get0 h_b4
              replace hF := hF.go0 U13
              refine qop_run (fun w' hw' => (fieldAt_eq (off := 3) (by kernel_rfl))) ?_
              refine qop_run (fun w' hw' => by have h_b4 := hw'.get h_b4 (fun hs => Or.elim hs (fun h => by first | exact Own.ne_blk own3 h_b4 (by decide) _ h rfl | (have := Own.ge own3 h; omega)) (fun e => by omega)); exact (ldC (by kernel_rfl) h_b4 (by rfl))) ?_
              refine ext_intro (fun w14 U14 => ?_)
              replace own3 := own3.upd0 U14
              replace rdc := rdc.upd0 U14
              replace rdr := rdr.upd0 U14
              replace h_b1 := U14.get0 h_b1
              replace h_b4 := U14.get0 h_b4
              replace hF := hF.go0 U14
              refine lop_i ?_
              have hcne : cur ≠ [] := Gs.len_pos (by assumption)
              have qF15 := hF.size
              have q15_h_b1 := lt_get h_b1
              have q15_h_b4 := lt_get h_b4
              have q15_own3 := Own.lt own3
              have q15_rdc := rdc.lt
              refine callF_pan (c_rd_item rdr (by have := hF.size; omega) (by omega) hcne) (fun v15 w15 D15 => ?_) (fun x15 w15 E15 => ?_)
              · obtain ⟨y27, r27, hn27, rfl, own27, N15, hy27, U15⟩ := D15
                replace rdr := N15
                have hle27 := Gs.itemF_len (by assumption) hn27
                have nx15_h_b1_own27 : ¬ ownS _ b1 := fun h => by have := (Own.ge own27 h).1; omega
                have nx15_h_b4_own27 : ¬ ownS _ b4 := fun h => by have := (Own.ge own27 h).1; omega
                have nx15_own3_own27 : ∀ k, ownS _ k → ¬ ownS _ k := fun k hk hs => by have := q15_own3 k hk; have := (Own.ge own27 hs).1; omega
                have nx15_rdc_own27 : _ ∨ ∀ k, _ → ¬ ownS _ k := q15_rdc.imp_right fun h k hk hs => by have := h k hk; have := (Own.ge own27 hs).1; omega
                replace own27 := own27.mono (B' := w.heap.size) (by omega)
                replace own3 := own3.updS U15 (fun k hk (e : k = br) => by have := (Own.ge own3 hk).1; omega)
                replace rdc := rdc.updS U15 (.inr fun k hk (e : k = br) => by have := hcg k hk; omega)
                replace h_b1 := U15.get h_b1 (show ¬ b1 = br by omega)
                replace h_b4 := U15.get h_b4 (show ¬ b4 = br by omega)
                replace hF := hF.go U15 (fun i h e => e)
                replace rdc := rdc.snoc (x := y27) own27.rdS
                have hcg2 := Gs.clB_ge hcg own27
                replace hcs := Gs.clB_own hcs nx15_own3_own27
                replace hc2 := Gs.clB_ne hc2 nx15_h_b1_own27
                replace hc3 := Gs.clB_ne hc3 nx15_h_b4_own27
                refine ⟨U15.mono (Nat.le_refl _) (fun i _ e => .inr e), ?_⟩
                refine ext_intro (fun w16 U16 => ?_)
                replace own3 := own3.upd0 U16
                replace rdc := rdc.upd0 U16
                replace rdr := rdr.upd0 U16
                replace own27 := own27.upd0 U16
                replace h_b1 := U16.get0 h_b1
                replace h_b4 := U16.get0 h_b4
                replace hF := hF.go0 U16
                refine lop_i ?_
                refine buildSlice_intro (e := 54) (m := 2) (z := #[.int .i64 0, .slice none 0 0]) (by kernel_rfl) (by kernel_rfl) (by rfl) (by decide) (by first | (simp [fillL, splice, repL, Value.cells, Gs.cv, Gs.ie]; done) | (simp [fillL, splice, repL, Value.cells, Gs.cv, Gs.ie]; rfl)) (fun b17 w17 e17 h_b17 _ U17 => ?_)
                have ne_b1_b17 : b1 ≠ b17 := by have := lt_get h_b1; omega
                have ne_b4_b17 : b4 ≠ b17 := by have := lt_get h_b4; omega
                have na_own3_b17 := own3.apart e17
                have na_rdc_b17 := rdc.apart e17
                have na_own27_b17 := own27.apart e17
                have ge_b17 : w.heap.size ≤ b17 := by have := hF.size; omega
                replace own3 := own3.upd0 U17
                replace rdc := rdc.upd0 U17
                replace rdr := rdr.upd0 U17
                replace own27 := own27.upd0 U17
                replace h_b1 := U17.get0 h_b1
                replace h_b4 := U17.get0 h_b4
                replace hF := hF.go0 U17
                clear e17
                refine ⟨U17.any, ?_⟩
                refine ext_intro (fun w18 U18 => ?_)
                replace own3 := own3.upd0 U18
                replace rdc := rdc.upd0 U18
                replace rdr := rdr.upd0 U18
                replace own27 := own27.upd0 U18
                replace h_b1 := U18.get0 h_b1
                replace h_b4 := U18.get0 h_b4
                replace h_b17 := U18.get0 h_b17
                replace hF := hF.go0 U18
                refine lop_i ?_
                refine app_introA (e := 54) (size := 2) (bytes := 32) (by kernel_rfl) own3 (show Rd _ (some ⟨b17, 0, none⟩) (rows Gs.ie [y27]) from Rd.of_blockL h_b17) (by first | exact rows_len Gs.encIt _ | (rw [rows_len Gs.encIt]; omega)) (rows_one Gs.encIt _) (by rw [rows_len Gs.encIt, rows_len Gs.encIt]; try simp only [List.length_nil, List.length_cons, List.length_take, List.length_append]; omega) (by have := hF.size; omega) (fun v19 w19 N19 hA19 U19 => ?_)
                have own3_o := own3
                have nb19_rdc := Gs.ap_rdc (S' := w18) hcs rdc hA19
                have nb19_own27 := ap_own (S' := w18) (fun k hk hs => nx15_own3_own27 k hs hk) own27 hA19
                have nc19_b17 : ∀ k, ownS v19 k → k ≠ b17 := fun k hk e => Or.elim (hA19 k hk) (fun h => na_own3_b17 k h e) (fun h => by have := lt_get h_b17; omega)
                replace h_b1 := U19.get h_b1 (fun h => by first | (have := Own.ge own3_o h; omega) | exact Own.ne_blk own3_o h_b1 (by decide) _ h rfl | exact Own.not_loop own3_o h_b1 (by assumption) _ h rfl | exact Own.not_def own3_o h_b1 _ h rfl | simp_all)
                replace h_b4 := U19.get h_b4 (fun h => by first | (have := Own.ge own3_o h; omega) | exact Own.ne_blk own3_o h_b4 (by decide) _ h rfl | exact Own.not_loop own3_o h_b4 (by assumption) _ h rfl | exact Own.not_def own3_o h_b4 _ h rfl | simp_all)
                replace own3 := N19
                replace rdc := rdc.updS U19 hcs
                replace rdr := rdr.upd U19 (fun k hk hs => by have := (Own.ge own3_o hs).1; omega)
                replace own27 := own27.updS U19 (fun k hk hs => nx15_own3_own27 k hs hk)
                replace h_b17 := U19.get h_b17 (fun h => na_own3_b17 _ h rfl)
                replace hF := hF.go U19 (fun i h hs => by first | exact hs | exact .inl hs | exact .inr hs | (have := (Own.ge own3_o hs).1; omega))
                clear own3_o
                rw [rows_append] at own3
                try simp only [List.nil_append] at own3
                obtain ⟨A19, c19, rfl⟩ := Own.open Gs.encIt own3
                refine ⟨U19.mono (Nat.le_refl _) (fun i _ h => .inl h), ?_⟩
                refine qop_run (fun w' hw' => (fieldAt_eq (off := 3) (by kernel_rfl))) ?_
                refine ext_intro (fun w20 U20 => ?_)
                replace own3 := own3.upd0 U20
                replace rdc := rdc.upd0 U20
                replace rdr := rdr.upd0 U20
                replace own27 := own27.upd0 U20
                replace h_b1 := U20.get0 h_b1
                replace h_b4 := U20.get0 h_b4
                replace h_b17 := U20.get0 h_b17
                replace hF := hF.go0 U20
                refine store1_intro (by kernel_rfl) rfl rfl h_b4 (by first | exact Nat.le_of_ble_eq_true rfl | (simp; done) | omega | (simp [vals_length, *]; done) | (simp [vals_length, *]; omega)) (by first | (simp [vals_set]; rfl) | rfl) (fun w21 N21 _ U21 => ?_)
                replace own3 := own3.upd1 U21 (by first | assumption | exact Own.ne_blk own3 (by assumption) (by decide) | exact Own.not_loop own3 (by assumption) (by assumption) | exact Own.not_def own3 (by assumption) | exact Own.not_loop own3 (by assumption) (lp3 _))
                replace rdc := rdc.upd1 U21 (by assumption)
                replace rdr := rdr.upd U21 (fun k hk (e : k = b4) => by omega)
                replace own27 := own27.upd1 U21 (by first | assumption | exact Own.ne_blk own27 (by assumption) (by decide) | exact Own.not_loop own27 (by assumption) (by assumption) | exact Own.not_def own27 (by assumption) | exact Own.not_loop own27 (by assumption) (lp3 _))
                replace h_b1 := U21.get1 h_b1 ne_b1_b4
                replace h_b17 := U21.get1 h_b17 (Ne.symm ne_b4_b17)
                replace h_b4 := N21
                replace hF := hF.go1 U21 ge_b4
                refine ext_intro (fun w22 U22 => ?_)
                replace own3 := own3.upd0 U22
                replace rdc := rdc.upd0 U22
                replace rdr := rdr.upd0 U22
                replace own27 := own27.upd0 U22
                replace h_b1 := U22.get0 h_b1
                replace h_b4 := U22.get0 h_b4
                replace h_b17 := U22.get0 h_b17
                replace hF := hF.go0 U22
                exact ⟨⟨l ++ [y27], _, _, r27, (by rw [Gs.its_snoc]; exact Gs.preI_step hinv hcne hn27), (by simp only [List.length_append, List.length_cons, List.length_nil]; omega), h_b1, (by rw [List.length_append]; exact h_b4), own3, rdc, hcg2, (by assumption), (hiw.snoc hy27), hc2, hc3, rdr, hF⟩, (by rw [Gs.rdr_len rdr, hm0]; exact hle27)⟩
              · obtain ⟨he15, U15⟩ := E15
                replace hF := hF.go U15 (fun i h e => e)
                first | exact .inr ⟨_, rfl, Gs.inbF_0 he15, hF⟩ | exact .inr ⟨_, rfl, Gs.inbF_perr hn5 (Gs.len_ne (by assumption)) he15, hF⟩ | exact .inr ⟨_, rfl, Gs.inbF_ierr hn5 (Gs.len_ne (by assumption)) hn16 (Gs.preI_err hinv hcne he15), hF⟩
            · refine condf ?_
              refine hJ1 _ _ ?_
              exact ⟨_, _, _, (Gs.preI_end hinv (List.length_eq_zero_iff.1 (by omega))), h_b1, h_b4, own3, rdc, hcg, hiw, hc2, hF⟩
        · obtain ⟨l, A3, c3, hfin, h_b1, h_b4, own3, rdc, hcg, hiw, hc2, hF⟩ := hI
          refine opv_run (ldA (n := 4) (by kernel_rfl) h_b4 (by first | exact Nat.le_of_ble_eq_true rfl | (simp; done) | omega) (by rfl)) ?_
          refine store_intro (n := 4) (by kernel_rfl) (by rfl) (by first | rfl | (simp [Value.cells, Value.oneCell', Gs.cv, Gs.ie]; done)) h_b1 (by first | exact Nat.le_of_ble_eq_true rfl | (simp; done) | omega) (by first | (simp; rfl) | rfl) (fun w23 N23 _ U23 => ?_)
          replace own3 := own3.upd1 U23 (by first | assumption | exact Own.ne_blk own3 (by assumption) (by decide) | exact Own.not_loop own3 (by assumption) (by assumption) | exact Own.not_def own3 (by assumption) | exact Own.not_loop own3 (by assumption) (lp3 _))
          replace rdc := rdc.upd1 U23 (by assumption)
          replace h_b4 := U23.get1 h_b4 (Ne.symm ne_b1_b4)
          replace h_b1 := N23
          replace hF := hF.go1 U23 ge_b1
          refine ldv_run (ldA (n := 4) (by kernel_rfl) h_b1 (by first | exact Nat.le_of_ble_eq_true rfl | simp | omega) (by rfl)) ?_
          first | exact .inl ⟨_, rfl, ⟨y5, true, 0, []⟩, [], none, 0, Gs.inbF_alone hn5 (List.length_eq_zero_iff.1 (by omega)), rfl, rfl, Rd.nil _ _, Gs.Cl.nil _, (fun _ h => by cases h), .inl rfl, (fun k ⟨x, hx, _⟩ => by cases hx), hy5, hF⟩ | exact .inl ⟨_, rfl, ⟨y5, false, y16, Gs.its l⟩, l, A3, c3, Gs.inbF_ok hn5 (Gs.len_ne (by assumption)) hn16 hfin, rfl, rfl, own3.rdS, rdc, hiw, .inr (fun k hk => (own3.geb k hk).1), hcg, hy5, hF⟩
      · obtain ⟨he10, U10⟩ := E10
        replace hF := hF.go U10 (fun i h e => e)
        first | exact .inr ⟨_, rfl, Gs.inbF_0 he10, hF⟩ | exact .inr ⟨_, rfl, Gs.inbF_perr hn5 (Gs.len_ne (by assumption)) he10, hF⟩ | exact .inr ⟨_, rfl, Gs.inbF_ierr hn5 (Gs.len_ne (by assumption)) hn16 (Gs.preI_err hinv hcne he10), hF⟩
  · obtain ⟨he2, U2⟩ := E2
    replace hF := hF.go U2 (fun i h e => e)
    first | exact .inr ⟨_, rfl, Gs.inbF_0 he2, hF⟩ | exact .inr ⟨_, rfl, Gs.inbF_perr hn5 (Gs.len_ne (by assumption)) he2, hF⟩ | exact .inr ⟨_, rfl, Gs.inbF_ierr hn5 (Gs.len_ne (by assumption)) hn16 (Gs.preI_err hinv hcne he2), hF⟩

end Go.Proofs.YtjdoakbadehicaaGreatDoor
